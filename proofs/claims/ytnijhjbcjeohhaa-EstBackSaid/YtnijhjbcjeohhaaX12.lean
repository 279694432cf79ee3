import Derived.Test.YtnijhjbcjeohhaaX11
import Derived.Test.YtnijhjbcjeohhaaX9
import Derived.Test.YtnijhjbcjeohhaaX4
import Derived.Test.YtnijhjbcjeohhaaX8
/- Joined and thinned by a program of this session's own (wip/pack2.py) out of its texts (wip/ of its repo); parts were laid by its own program (wip/print-patch.py over the kit's print) out of the translation; Lean checks all. -/
set_option maxRecDepth 100000
set_option maxHeartbeats 4000000
namespace Go.Proofs.Ytnijhjbcjeohhaa.EE
open Go.RowKit Go.Proofs.Ytnijhjbcjeohhaa.KK Go.Proofs.af.aF Go.Proofs.af.aP Go.Proofs.af.aQ
set_option linter.unusedVariables false
set_option linter.unusedSimpArgs false
def yz (t : Nat → Tr) : Es := ⟨16777216, 0, 0, 0, t 0, t 1, t 2, 0, 0, 0, 0, 0, 0, false⟩
theorem MX (t : Nat → Tr) (h : ∀ j, j < 3 → (t j).x = [0, 0, 0] ∧ (t j).p = oq) : mZ t 3 = (yz t).R := by
 have l9 : oq.length = 9 := PR.ji _
 simp [mZ, yz, Es.R, Es.row, h 0 (by decide), h 1 (by decide), h 2 (by decide), l9]
theorem Jw (t : Nat → Tr) (h : ∀ j, j < 3 → (t j).x = [0, 0, 0] ∧ (t j).p = oq) : (yz t).nu = en0 := by
 simp [yz, Es.nu, en0, h 0 (by decide), h 1 (by decide), h 2 (by decide)]
theorem EZ : PR.gJ 3 1 [0, 0, 0] 3 3 oq := by decide +kernel
theorem BV (t : Nat → Tr) : (yz t).right = true := by rfl
def zE : Array Value := #[I 0, I 0, I 0, I 0, I 0, I 0, .slice none 0 0, I 0, I 0, .slice none 0 0, I 0, I 0, .slice none 0 0, I 0, I 0, .slice none 0 0, I 0, I 0, .slice none 0 0, I 0, I 0, .slice none 0 0, I 0, I 0, I 0, I 0, I 0, I 0, .bool false]
theorem yE : Gd (Gj.cnt true) := CB.ahead.cnt true
theorem yZ (w : World) : Calls Try.prog 13 #[] w fun x w' => x = .returned (.bool true) ∧ Below w.heap.size w w' := by
 have HC : Hid (∀ w', Calls Try.prog 34 #[] w' fun x w'' => x = .returned (.agg Lu.row) ∧ Below w'.heap.size w' w'') := Lib.hid (fun w' => PQ.jV.calls _ _ _ _ _ _ w' rfl)
 go_enter Try.func13, Try.ntmps13
 go_wp2_with fail
 refine (HC.out _).mono ?_
 rintro x w1 ⟨rfl, hb⟩
 have B1 := Lib.hid hb
 clear hb
 go_wp2_with fail
 refine (BU Lu _ (by decide +kernel)).mono ?_
 rintro x w2 ⟨t, rfl, ht, hb⟩
 rw [MX t (fun j hj => ⟨(ht j hj).1, (ht j hj).2.1⟩)]
 have HE := Lib.hid (Jw t (fun j hj => ⟨(ht j hj).1, (ht j hj).2.1⟩))
 have HT := Lib.hid ht
 have B2 := Lib.hid hb
 clear ht hb
 have ER := Lib.hid (BV t)
 have AX : Hid (∀ j, j < 3 → Rw w2 ((yz t).ax j)) := Lib.hid (fun j hj => by
  obtain rfl | rfl | rfl : j = 0 ∨ j = 1 ∨ j = 2 := by omega
  all_goals exact (HT.out _ (by omega)).2.2.rw)
 have XP : Hid (∀ j, j < 3 → ((yz t).ax j).x = [0, 0, 0] ∧ ((yz t).ax j).p = oq) := Lib.hid (fun j hj => by
  obtain rfl | rfl | rfl : j = 0 ∨ j = 1 ∨ j = 2 := by omega
  all_goals exact ⟨(HT.out _ (by omega)).1, (HT.out _ (by omega)).2.1⟩)
 clear HT
 generalize yz t = e at HE ER AX XP ⊢
 have ST : Hid ((w2.alloc (.cells #[.int .i64 0, .int .i64 0, .int .i64 0, .int .i64 0, .int .i64 0, .int .i64 0, .slice none 0 0, .int .i64 0, .int .i64 0, .slice none 0 0, .int .i64 0, .int .i64 0, .slice none 0 0, .int .i64 0, .int .i64 0, .slice none 0 0, .int .i64 0, .int .i64 0, .slice none 0 0, .int .i64 0, .int .i64 0, .slice none 0 0, .int .i64 0, .int .i64 0, .int .i64 0, .int .i64 0, .int .i64 0, .int .i64 0, .bool false] 37)).there w2.heap.size 0 e.R.size) := Lib.hid (by have h := Row.there (Row.new w2 37 #[.int .i64 0, .int .i64 0, .int .i64 0, .int .i64 0, .int .i64 0, .int .i64 0, .slice none 0 0, .int .i64 0, .int .i64 0, .slice none 0 0, .int .i64 0, .int .i64 0, .slice none 0 0, .int .i64 0, .int .i64 0, .slice none 0 0, .int .i64 0, .int .i64 0, .slice none 0 0, .int .i64 0, .int .i64 0, .slice none 0 0, .int .i64 0, .int .i64 0, .int .i64 0, .int .i64 0, .int .i64 0, .int .i64 0, .bool false]); exact h)
 have i37 : Hid ((Try.prog.info? 37).map (·.size) = some e.R.size) := Lib.hid (by kernel_rfl)
 have one : Hid (e.R.all (·.oneCell') = true) := Lib.hid (by kernel_rfl)
 go_upto_region 2 with (with_reducible refine wpList_store_mid rfl 37 (.tmp 1) (.tmp 8) rfl w2.heap.size 0 e.R rfl rfl ST.out i37.out one.out ?_)
 have RE : Hid (Row ((w2.alloc (.cells #[.int .i64 0, .int .i64 0, .int .i64 0, .int .i64 0, .int .i64 0, .int .i64 0, .slice none 0 0, .int .i64 0, .int .i64 0, .slice none 0 0, .int .i64 0, .int .i64 0, .slice none 0 0, .int .i64 0, .int .i64 0, .slice none 0 0, .int .i64 0, .int .i64 0, .slice none 0 0, .int .i64 0, .int .i64 0, .slice none 0 0, .int .i64 0, .int .i64 0, .int .i64 0, .int .i64 0, .int .i64 0, .int .i64 0, .bool false] 37)).setCells w2.heap.size 0 e.R.toList) w2.heap.size 37 e.R) := Lib.hid (Row.full (Row.new w2 37 #[.int .i64 0, .int .i64 0, .int .i64 0, .int .i64 0, .int .i64 0, .int .i64 0, .slice none 0 0, .int .i64 0, .int .i64 0, .slice none 0 0, .int .i64 0, .int .i64 0, .slice none 0 0, .int .i64 0, .int .i64 0, .slice none 0 0, .int .i64 0, .int .i64 0, .slice none 0 0, .int .i64 0, .int .i64 0, .slice none 0 0, .int .i64 0, .int .i64 0, .int .i64 0, .int .i64 0, .int .i64 0, .int .i64 0, .bool false]) e.R rfl)
 have B3 : Hid (Below w2.heap.size w2 ((w2.alloc (.cells #[.int .i64 0, .int .i64 0, .int .i64 0, .int .i64 0, .int .i64 0, .int .i64 0, .slice none 0 0, .int .i64 0, .int .i64 0, .slice none 0 0, .int .i64 0, .int .i64 0, .slice none 0 0, .int .i64 0, .int .i64 0, .slice none 0 0, .int .i64 0, .int .i64 0, .slice none 0 0, .int .i64 0, .int .i64 0, .slice none 0 0, .int .i64 0, .int .i64 0, .int .i64 0, .int .i64 0, .int .i64 0, .int .i64 0, .bool false] 37)).setCells w2.heap.size 0 e.R.toList)) := Lib.hid (KK.b_ _ _ _ ((Below.refl _ _).alloc (Nat.le_refl _) _) (Nat.le_refl _))
 clear ST one
 generalize (w2.alloc (.cells #[.int .i64 0, .int .i64 0, .int .i64 0, .int .i64 0, .int .i64 0, .int .i64 0, .slice none 0 0, .int .i64 0, .int .i64 0, .slice none 0 0, .int .i64 0, .int .i64 0, .slice none 0 0, .int .i64 0, .int .i64 0, .slice none 0 0, .int .i64 0, .int .i64 0, .slice none 0 0, .int .i64 0, .int .i64 0, .slice none 0 0, .int .i64 0, .int .i64 0, .int .i64 0, .int .i64 0, .int .i64 0, .int .i64 0, .bool false] 37)).setCells w2.heap.size 0 e.R.toList = w3 at RE B3 ⊢
 have RL := Lib.hid (Row.whole RE.out)
 have zC : Hid ((Try.prog.info? 37).map (·.size) = some e.R.toList.length) := Lib.hid (by kernel_rfl)
 go_wp2_with (with_reducible refine OG.iD rfl 37 (.tmp 1) rfl w2.heap.size 0 rfl e.R.toList _ RL.out Try.underlying37 rfl zC.out ?_)
 have RR : Hid (Calls Try.prog 20 #[.agg e.R] w3 fun x w' => x = .returned (.bool true) ∧ Below w3.heap.size w3 w') := Lib.hid (by
  have hw : ∀ j, j < 3 → Rw w3 (e.ax j) := fun j hj => AX.out j hj |>.below B3.out
  have hh := ED e w3 hw (fun j hj => by rw [(XP.out j hj).1, (XP.out j hj).2]; exact ⟨rfl, PR.ji _⟩) (fun j hj => by rw [(XP.out j hj).1, (XP.out j hj).2]; exact EZ)
  rw [ER.out] at hh
  exact hh)
 refine RR.out.mono ?_
 rintro x w4 ⟨rfl, hb⟩
 have H16 : Hid (∀ (e : Es) (w : World), e.nu = en0 → (∀ j, j < 3 → Rw w (e.ax j)) → Calls Try.prog 16 #[.agg Lu.row, .agg e.R, .agg UG.R] w fun x w' => ∃ e' : Es, e'.nu = Gj.cnt true ∧ x = .returned (.tuple #[.agg e'.R, .agg #[I 0, I 0, I 0]]) ∧ (∀ j, j < 3 → Ro w.heap.size w' (e'.ax j)) ∧ Below w.heap.size w w') := Lib.hid (fun e w he hr => by
  refine (Bz e w he hr).mono ?_
  rintro x w' ⟨e', h1, rfl, h3⟩
  exact ⟨e', h1, by rw [show (Gj.cnt true).x0 = _ from DL.1, show (Gj.cnt true).x1 = _ from DL.2.1, show (Gj.cnt true).x2 = _ from DL.2.2.1]; rfl, h3⟩)
 have B4 := Lib.hid (B3.out.trans (hb.mono B3.out.size))
 have RE4 := Lib.hid (RE.out.below hb RE.out.lt)
 clear hb RR RE RL B3
 go_upto_region 4 with fail
 refine OG.vC (by kernel_rfl) (fun l a w => ∃ e1 : Es, ∃ b3 : Nat, ∃ b4 : Nat, a = { tmps := List.toArray (Value.bool false :: Value.pointer (some ⟨w2.heap.size, 0, none⟩) :: I 0 :: (bif l 7 then .pointer (some ⟨b3, 0, none⟩) else undef) :: (bif l 8 then .pointer (some ⟨b4, 0, none⟩) else undef) :: Value.tuple #[Value.agg e.R, I 0] :: Value.agg Lu.row :: Value.tuple #[Value.agg e.R, I 0] :: Value.agg e.R :: I 0 :: I 0 :: Value.bool false :: Value.bool false :: Value.agg e.R :: Value.bool true :: Value.bool false :: Value.bool false :: (bif l 4 then .tuple #[.agg e1.R, .agg #[I 0, I 0, I 0]] else undef) :: (bif l 0 then .agg Lu.row else undef) :: (bif l 1 then .agg e.R else undef) :: (bif l 2 then .agg UG.R else undef) :: (bif l 3 then .tuple #[.agg e1.R, .agg #[I 0, I 0, I 0]] else undef) :: (bif l 5 then .agg e1.R else undef) :: (bif l 6 then .agg #[I 0, I 0, I 0] else undef) :: undef :: undef :: undef :: undef :: undef :: undef :: undef :: undef :: undef :: undef :: undef :: undef :: undef :: undef :: undef :: undef :: undef :: undef :: undef :: undef :: undef :: undef :: undef :: undef :: []), defers := [] } ∧ (Below w4.heap.size w4 w) ∧ (OG.pV w4.heap.size w (l 7) b3 37 (bif l 9 then e1.R else zE)) ∧ (OG.pV w4.heap.size w (l 8) b4 42 #[I 0, I 0, I 0]) ∧ (l 7 = true → l 8 = true → b3 ≠ b4) ∧ (uq (l 3) (l 7) (l 8) (Gj.cnt true) e1 b3 b4 w)) (by kernel_rfl) ?s0 ?ss ?se
 case s0 => exact ⟨e, 0, 0, rfl, (Below.refl _ _).drew, OG.pV.off, OG.pV.off, (fun h => by cases h), uq.off⟩
 case ss =>
  refine OG.Steps.cons rfl (fun l a w K hK hJ hcl h0 hd => ?_) (OG.Steps.cons rfl (fun l a w K hK hJ hcl h0 hd => ?_) (OG.Steps.cons rfl (fun l a w K hK hJ hcl h0 hd => ?_) (OG.Steps.cons rfl (fun l a w K hK hJ hcl h0 hd => ?_) (OG.Steps.cons rfl (fun l a w K hK hJ hcl h0 hd => ?_) (OG.Steps.cons rfl (fun l a w K hK hJ hcl h0 hd => ?_) (OG.Steps.cons rfl (fun l a w K hK hJ hcl h0 hd => ?_) (OG.Steps.cons rfl (fun l a w K hK hJ hcl h0 hd => ?_) (OG.Steps.cons rfl (fun l a w K hK hJ hcl h0 hd => ?_) (OG.Steps.cons rfl (fun l a w K hK hJ hcl h0 hd => ?_) (OG.Steps.cons rfl (fun l a w K hK hJ hcl h0 hd => ?_) OG.Steps.nil))))))))))
  · obtain ⟨e1, b3, b4, rfl, hP0, hP1, hP2, hP3, oz⟩ := hJ
    have HJ := Lib.hid (And.intro hP0 (And.intro hP1 (And.intro hP2 (And.intro hP3 (oz)))))
    clear hP0 hP1 hP2 hP3 oz hd hcl h0
    go_simp
    refine (HC.out _).mono ?_
    rintro x w' ⟨rfl, hb⟩
    exact hK.out _ _ ⟨e1, b3, b4, (rfl), (HJ.out.1.trans (hb.mono HJ.out.1.size)), (HJ.out.2.1.below hb), (HJ.out.2.2.1.below hb), (HJ.out.2.2.2.1), (HJ.out.2.2.2.2.below hb)⟩
  · obtain ⟨e1, b3, b4, rfl, hP0, hP1, hP2, hP3, oz⟩ := hJ
    have HJ := Lib.hid (And.intro hP0 (And.intro hP1 (And.intro hP2 (And.intro hP3 (oz)))))
    clear hP0 hP1 hP2 hP3 oz hd hcl h0
    refine wp_load_mid 37 (.tmp 1) rfl w2.heap.size 0 rfl e.R.toList _ (Row.whole (RE4.out.below HJ.out.1 RE4.out.lt)) Try.underlying37 rfl zC.out ?_
    exact hK.out _ _ ⟨e1, b3, b4, (rfl), (HJ.out.1), (HJ.out.2.1), (HJ.out.2.2.1), (HJ.out.2.2.2.1), (HJ.out.2.2.2.2)⟩
  · obtain ⟨e1, b3, b4, rfl, hP0, hP1, hP2, hP3, oz⟩ := hJ
    have HJ := Lib.hid (And.intro hP0 (And.intro hP1 (And.intro hP2 (And.intro hP3 (oz)))))
    clear hP0 hP1 hP2 hP3 oz hd hcl h0
    go_simp
    exact hK.out _ _ ⟨e1, b3, b4, (rfl), (HJ.out.1), (HJ.out.2.1), (HJ.out.2.2.1), (HJ.out.2.2.2.1), (HJ.out.2.2.2.2)⟩
  · obtain ⟨e1, b3, b4, rfl, hP0, hP1, hP2, hP3, oz⟩ := hJ
    have d0 := hd.get 0 (by rfl)
    have d1 := hd.get 1 (by rfl)
    have d2 := hd.get 2 (by rfl)
    have f4 := hcl.off 4 3 (by rfl) h0
    have f5 := hcl.off 5 4 (by rfl) f4
    have f9 := hcl.off 9 3 (by rfl) h0
    have HJ := Lib.hid (And.intro hP0 (And.intro hP1 (And.intro hP2 (And.intro hP3 (oz)))))
    clear hP0 hP1 hP2 hP3 oz hd hcl h0
    go_simp
    refine (H16.out _ w HE.out (fun j hj => ((AX.out j hj).below B4.out).below HJ.out.1)).mono ?_
    rintro x w' ⟨e', hn', rfl, hr', hb⟩
    exact hK.out _ _ ⟨e', b3, b4, (by simp only [OG.upd, d0, d1, d2, f4, f5, f9]; rfl), (HJ.out.1.trans (hb.mono HJ.out.1.size)), (by rw [show (OG.upd l 3) 9 = false from f9]; have h1 := HJ.out.2.1; rw [f9] at h1; exact h1.below hb), (HJ.out.2.2.1.below hb), (HJ.out.2.2.2.1), (uq.mk hn' hr' HJ.out.2.1.bound HJ.out.2.2.1.bound)⟩
  · obtain ⟨e1, b3, b4, rfl, hP0, hP1, hP2, hP3, oz⟩ := hJ
    have d3 := hd.get 3 (by rfl)
    have HJ := Lib.hid (And.intro hP0 (And.intro hP1 (And.intro hP2 (And.intro hP3 (oz)))))
    clear hP0 hP1 hP2 hP3 oz hd hcl h0
    go_simp
    exact hK.out _ _ ⟨e1, b3, b4, (by simp only [OG.upd, d3]; rfl), (HJ.out.1), (HJ.out.2.1), (HJ.out.2.2.1), (HJ.out.2.2.2.1), (HJ.out.2.2.2.2)⟩
  · obtain ⟨e1, b3, b4, rfl, hP0, hP1, hP2, hP3, oz⟩ := hJ
    have d4 := hd.get 4 (by rfl)
    have HJ := Lib.hid (And.intro hP0 (And.intro hP1 (And.intro hP2 (And.intro hP3 (oz)))))
    clear hP0 hP1 hP2 hP3 oz hd hcl h0
    go_simp
    exact hK.out _ _ ⟨e1, b3, b4, (by simp only [OG.upd, d4]; rfl), (HJ.out.1), (HJ.out.2.1), (HJ.out.2.2.1), (HJ.out.2.2.2.1), (HJ.out.2.2.2.2)⟩
  · obtain ⟨e1, b3, b4, rfl, hP0, hP1, hP2, hP3, oz⟩ := hJ
    have d4 := hd.get 4 (by rfl)
    have HJ := Lib.hid (And.intro hP0 (And.intro hP1 (And.intro hP2 (And.intro hP3 (oz)))))
    clear hP0 hP1 hP2 hP3 oz hd hcl h0
    go_simp
    exact hK.out _ _ ⟨e1, b3, b4, (by simp only [OG.upd, d4]; rfl), (HJ.out.1), (HJ.out.2.1), (HJ.out.2.2.1), (HJ.out.2.2.2.1), (HJ.out.2.2.2.2)⟩
  · obtain ⟨e1, b3, b4, rfl, hP0, hP1, hP2, hP3, oz⟩ := hJ
    have f9 := hcl.off 9 7 (by rfl) h0
    have HJ := Lib.hid (And.intro hP0 (And.intro hP1 (And.intro hP2 (And.intro hP3 (oz)))))
    clear hP0 hP1 hP2 hP3 oz hd hcl h0
    go_simp
    exact hK.out _ _ ⟨e1, w.heap.size, b4, (rfl), (HJ.out.1.alloc HJ.out.1.size _), (by rw [show (OG.upd l 7) 9 = false from f9]; exact OG.pV.new HJ.out.1.size), (HJ.out.2.2.1.alloc _), (fun _ e8 => Ne.symm (HJ.out.2.2.1.ne e8)), (uq.WH yE HJ.out.2.2.2.2 _)⟩
  · obtain ⟨e1, b3, b4, rfl, hP0, hP1, hP2, hP3, oz⟩ := hJ
    have HJ := Lib.hid (And.intro hP0 (And.intro hP1 (And.intro hP2 (And.intro hP3 (oz)))))
    clear hP0 hP1 hP2 hP3 oz hd hcl h0
    go_simp
    exact hK.out _ _ ⟨e1, b3, w.heap.size, (rfl), (HJ.out.1.alloc HJ.out.1.size _), (HJ.out.2.1.alloc _), (OG.pV.new HJ.out.1.size), (fun e7 _ => HJ.out.2.1.ne e7), (uq.WG yE HJ.out.2.2.2.2 _)⟩
  · obtain ⟨e1, b3, b4, rfl, hP0, hP1, hP2, hP3, oz⟩ := hJ
    have d5 := hd.get 5 (by rfl)
    have d7 := hd.get 7 (by rfl)
    have HJ := Lib.hid (And.intro hP0 (And.intro hP1 (And.intro hP2 (And.intro hP3 (oz)))))
    clear hP0 hP1 hP2 hP3 oz hd hcl h0
    have h1 := HJ.out.2.1
    have h4 := HJ.out.2.2.2.2
    rw [d7] at h1 h4
    refine wp_store_mid 37 (.tmp 3) (.tmp 22) rfl b3 0 e1.R (by show cond (l 7) _ _ = _; rw [d7]; rfl) (by show cond (l 5) _ _ = _; rw [d5]; rfl) (by have := Row.there h1.row; cases h9 : l 9 <;> rw [h9] at this <;> exact this) (by kernel_rfl) (by kernel_rfl) ?_
    exact hK.out _ _ ⟨e1, b3, b4, (by simp only [OG.upd, d5, d7]; rfl), (KK.b_ _ _ _ HJ.out.1 h1.le), (by show OG.pV _ _ (l 7) _ _ e1.R; rw [d7]; exact pV.full h1 e1.R (by cases l 9 <;> rfl)), (HJ.out.2.2.1.cells (fun k => Ne.symm (HJ.out.2.2.2.1 d7 k)) _), (HJ.out.2.2.2.1), (by show uq (l 3) (l 7) (l 8) _ _ _ _ _; rw [d7]; exact h4.NW _ _)⟩
  · obtain ⟨e1, b3, b4, rfl, hP0, hP1, hP2, hP3, oz⟩ := hJ
    have d6 := hd.get 6 (by rfl)
    have d8 := hd.get 8 (by rfl)
    have HJ := Lib.hid (And.intro hP0 (And.intro hP1 (And.intro hP2 (And.intro hP3 (oz)))))
    clear hP0 hP1 hP2 hP3 oz hd hcl h0
    have h2 := HJ.out.2.2.1
    have h4 := HJ.out.2.2.2.2
    rw [d8] at h2 h4
    refine wp_store_mid 42 (.tmp 4) (.tmp 23) rfl b4 0 #[I 0, I 0, I 0] (by show cond (l 8) _ _ = _; rw [d8]; rfl) (by show cond (l 6) _ _ = _; rw [d6]; rfl) (Row.there h2.row) (by kernel_rfl) (by kernel_rfl) ?_
    exact hK.out _ _ ⟨e1, b3, b4, (by simp only [OG.upd, d6, d8]; rfl), (KK.b_ _ _ _ HJ.out.1 h2.le), (HJ.out.2.1.cells (fun k => HJ.out.2.2.2.1 k d8) _), (by show OG.pV _ _ (l 8) _ _ _; rw [d8]; exact pV.full h2 #[I 0, I 0, I 0] rfl), (HJ.out.2.2.2.1), (by show uq (l 3) (l 7) (l 8) _ _ _ _ _; rw [d8]; exact h4.NV _ _)⟩
 case se =>
  intro l a w hJ he
  obtain ⟨e1, b3, b4, rfl, hP0, hP1, hP2, hP3, oz⟩ := hJ
  rw [he 0 (by decide), he 1 (by decide), he 2 (by decide), he 3 (by decide), he 4 (by decide), he 5 (by decide), he 6 (by decide), he 7 (by decide), he 8 (by decide)]
  rw [he 7 (by decide), he 9 (by decide)] at hP1
  rw [he 8 (by decide)] at hP2
  rw [he 3 (by decide), he 7 (by decide), he 8 (by decide)] at oz
  clear he
  have B5 := Lib.hid (B4.out.trans (hP0.mono B4.out.size))
  have R3 : Hid (Row w b3 37 e1.R) := Lib.hid hP1.row
  have R4 := Lib.hid hP2.row
  have GE := Lib.hid (oz rfl)
  clear hP0 hP1 hP2 hP3 oz
  have v1 : e1.steps = 1 := (congrArg En.steps GE.out.1 : _)
  have v2 : e1.dP = 1 := (congrArg En.dP GE.out.1 : _)
  have v3 : e1.sat = false := (congrArg En.sat GE.out.1 : _).trans DL.2.2.2
  have c1 : w.cell? ⟨b3, 22, none⟩ = some (I 1) := by rw [R3.out.cell, ← v1]; rfl
  have c2 : w.cell? ⟨b3, 23, none⟩ = some (I 1) := by rw [R3.out.cell, ← v2]; rfl
  have c3 : w.cell? ⟨b3, 28, none⟩ = some (.bool false) := by rw [R3.out.cell, ← v3]; rfl
  have c4 := R4.out.cell 0
  have c5 := R4.out.cell 1
  have c6 := R4.out.cell 2
  clear v1 v2 v3
  have RL := Lib.hid (Row.whole R3.out)
  have Jy : Hid ((Try.prog.info? 37).map (·.size) = some e1.R.toList.length) := Lib.hid (by kernel_rfl)
  have EQ := PQ.XR 0 0 0 0 0 0 w
  go_wp2_with (with_reducible refine OG.iD rfl 37 (.tmp 3) rfl b3 0 rfl e1.R.toList _ RL.out Try.underlying37 rfl Jy.out ?_)
  refine (tq e1 _ (fun j hj => (GE.out.2 j hj).1) (fun j hj => by rw [yu, zl, GE.out.1]; exact ⟨yE.lx j hj, yE.lp j hj⟩)).mono ?_
  rintro x w6 ⟨A, cc, rfl, _, hb⟩
  have B6 := Lib.hid (B5.out.trans (hb.mono B5.out.size))
  clear hb
  go_wp2
  go_ret
  exact ⟨rfl, (B1.out.trans (B2.out.mono B1.out.size)).trans (B6.out.mono (B1.out.trans (B2.out.mono B1.out.size)).size)⟩
end Go.Proofs.Ytnijhjbcjeohhaa.EE

namespace Go.Proofs.Ytnijhjbcjeohhaa.EE
open Go.RowKit Go.Proofs.Ytnijhjbcjeohhaa.KK Go.Proofs.af.aF Go.Proofs.af.aP Go.Proofs.af.aQ
set_option linter.unusedVariables false
set_option linter.unusedSimpArgs false
structure Tg where
 r : Int
 c : Int
 A : Option Addr
 cx : Nat
 x : List Int
 r' : Int
 c' : Int
 B : Option Addr
 cp : Nat
 p : List Int
abbrev Tg.row (t : Tg) : Array Value := #[I t.r, I t.c, .slice t.A t.x.length t.cx, I t.r', I t.c', .slice t.B t.p.length t.cp]
structure Eg where
 q0 : Int
 q1 : Int
 q2 : Int
 q3 : Int
 t0 : Tg
 t1 : Tg
 t2 : Tg
 steps : Int
 dP : Int
 f0 : Int
 f1 : Int
 f2 : Int
 f3 : Int
 sat : Bool
abbrev Eg.row (e : Eg) : Array Value :=
 #[I e.q0, I e.q1, I e.q2, I e.q3,
   I e.t0.r, I e.t0.c, .slice e.t0.A e.t0.x.length e.t0.cx, I e.t0.r', I e.t0.c', .slice e.t0.B e.t0.p.length e.t0.cp,
   I e.t1.r, I e.t1.c, .slice e.t1.A e.t1.x.length e.t1.cx, I e.t1.r', I e.t1.c', .slice e.t1.B e.t1.p.length e.t1.cp,
   I e.t2.r, I e.t2.c, .slice e.t2.A e.t2.x.length e.t2.cx, I e.t2.r', I e.t2.c', .slice e.t2.B e.t2.p.length e.t2.cp,
   I e.steps, I e.dP, I e.f0, I e.f1, I e.f2, I e.f3, .bool e.sat]
def Eg.R (e : Eg) : Array Value := e.row
def Eg.t (e : Eg) : Nat → Tg
 | 0 => e.t0
 | 1 => e.t1
 | _ => e.t2
structure I9 (w : World) (t : Tg) : Prop where
 x : Rd w t.A t.x
 xc : t.x.length ≤ t.cx
 p : Rd w t.B t.p
 pd : t.p.length ≤ t.cp
theorem I9.below {w w' : World} {t : Tg} (h : I9 w t) (hb : Below w.heap.size w w') : I9 w' t := ⟨h.x.below hb, h.xc, h.p.below hb, h.pd⟩
def Tg.ok (t : Tg) : Bool := decide (PR.gJ t.r t.c t.x t.r' t.c' t.p) && decide (t.r = 3)
def Eg.n0 (e : Eg) : Bool := ((decide (e.steps < 0) || decide (e.steps > 1099511627776)) || decide (e.dP < 0)) || decide (e.dP > 1000)
def Eg.o4 (e : Eg) : Bool := !eu e.f0 && (!eu e.f1 && (!eu e.f2 && !eu e.f3))
def Eg.t3 (e : Eg) : Bool := e.t0.ok && (e.t1.ok && e.t2.ok)
def Eg.ok (e : Eg) : Bool := !e.n0 && (e.o4 && (e.t3 && PQ.iG (PQ.at4 e.q0 e.q1 e.q2 e.q3) 4))
end Go.Proofs.Ytnijhjbcjeohhaa.EE

namespace Go.Proofs.Ytnijhjbcjeohhaa.OG
open Go Go.RowKit Go.Proofs.Ytnijhjbcjeohhaa.KK
section
variable {P : Program} {ops : Array Oper} {Q : Exit → Act → World → Prop}
theorem Steps.opt {J : (Nat → Bool) → Act → World → Prop} {k : Nat} {o : Oper} {r : List Oper} {gi dst : Nat} {gb : Bool} (b : Bool) (hg : o.guard = some (gi, gb)) (hd : (ops[gi]?).bind (·.dst) = some dst)
 (hv : ∀ l a w, J l a w → deps o l → a.tmps[dst]? = some (.bool (b == gb)))
 (h : ∀ l a w (K : Act → World → Prop), Hid (∀ a' w', J (upd l k) a' w' → K a' w') → J l a w → Closed ops l → l k = false → deps o l → (b = true → o.wp P a w K Q) ∧ (b = false → K (a.put o.dst undef) w)) (hr : Steps P ops Q J (k + 1) r) : Steps P ops Q J k (o :: r) :=
 ⟨fun l a w hJ hc hl hdp => by
   have h1 := hv l a w hJ hdp
   have h2 := h l a w _ (Lib.hid fun _ _ h => h) hJ hc hl hdp
   cases b
   · exact .inr ⟨by cases gb <;> simp [Region.wanted, hg, yielded, hd, h1], h2.2 rfl⟩
   · exact .inl ⟨by cases gb <;> simp [Region.wanted, hg, yielded, hd, h1], h2.1 rfl⟩, hr⟩
end
end Go.Proofs.Ytnijhjbcjeohhaa.OG

namespace Go.Proofs.Ytnijhjbcjeohhaa.PR
open Go.RowKit Go.Proofs.Ytnijhjbcjeohhaa.PQ Go.Proofs.af.aF Go.Proofs.af.aP Go.Proofs.af.aQ Go.Proofs.Ytnijhjbcjeohhaa.KK
set_option linter.unusedVariables false
set_option linter.unusedSimpArgs false
theorem vI (r c : Int) (A : Option Addr) (cp : Nat) (x : List Int) (r' c' : Int) (B : Option Addr) (cp' : Nat) (l : List Int) (w0 : World) (hA : Rd w0 A x) (hB : Rd w0 B l) (kB : l.length ≤ cp') :
 Calls Try.prog 45 #[.agg #[I r, I c, .slice A x.length cp, I r', I c', .slice B l.length cp']] w0 fun e w' => e = .returned (.bool (decide (gJ r c x r' c' l))) ∧ Below w0.heap.size w0 w' := by
 have NB := Lib.hid (Row.new w0 33 #[I r, I c, .slice A x.length cp, I r', I c', .slice B l.length cp'])
 have B0 := Lib.hid ((Below.refl w0.heap.size w0).alloc (Nat.le_refl _) (.cells #[I r, I c, .slice A x.length cp, I r', I c', .slice B l.length cp'] 33))
 have HA := Lib.hid hA
 have HB := Lib.hid hB
 have KB := Lib.hid kB
 clear hA hB kB
 obtain ⟨g1, hg1⟩ : ∃ b, gK r c x = b := ⟨_, rfl⟩
 obtain ⟨g2, hg2⟩ : ∃ b, (g1 && gK r' c' l) = b := ⟨_, rfl⟩
 obtain ⟨g3, hg3⟩ : ∃ b, (g2 && (c == 1)) = b := ⟨_, rfl⟩
 obtain ⟨g4, hg4⟩ : ∃ b, (g3 && (r' == r)) = b := ⟨_, rfl⟩
 obtain ⟨g5, hg5⟩ : ∃ b, (g4 && (c' == r)) = b := ⟨_, rfl⟩
 obtain ⟨L, Qy⟩ : ∃ L, qJ r.toNat r.toNat l = L := ⟨_, rfl⟩
 obtain ⟨g6, Np⟩ : ∃ b, (g5 && decide (l = L)) = b := ⟨_, rfl⟩
 go_enter Try.func45, Try.ntmps45
 go_upto_region 1 with fail
 generalize w0.alloc (.cells #[I r, I c, .slice A x.length cp, I r', I c', .slice B l.length cp'] 33) = w1 at NB B0 ⊢
 have hx : ∀ i, w1.cell? ⟨w0.heap.size, i, none⟩ = #[I r, I c, .slice A x.length cp, I r', I c', .slice B l.length cp'][i]? := NB.out.cell
 have Ru : Hid (∀ w', Below w1.heap.size w1 w' → Calls Try.prog 75 #[.agg #[I r, I c, .slice A x.length cp]] w' fun e w'' => e = .returned (.bool g1) ∧ Below w'.heap.size w' w'') := Lib.hid (fun w' h => by
  have hh := ig r c A cp x w' (HA.out.below (B0.out.trans (h.mono B0.out.size)))
  rw [hg1] at hh
  exact hh)
 have Rt : Hid (g1 = true → ∀ w', Below w1.heap.size w1 w' → Calls Try.prog 75 #[.agg #[I r', I c', .slice B l.length cp']] w' fun e w'' => e = .returned (.bool g2) ∧ Below w'.heap.size w' w'') := Lib.hid (fun hg w' h => by
  have hh := ig r' c' B cp' l w' (HB.out.below (B0.out.trans (h.mono B0.out.size)))
  rw [show gK r' c' l = g2 by rw [← hg2, hg, Bool.true_and]] at hh
  exact hh)
 have E3 : Hid (g2 = true → (c != 1) = !g3) := Lib.hid (fun hg => by rw [← hg3, hg, Bool.true_and]; rfl)
 have E4 : Hid (g3 = true → (r' != r) = !g4) := Lib.hid (fun hg => by rw [← hg4, hg, Bool.true_and]; rfl)
 have E5 : Hid (g4 = true → (c' != r) = !g5) := Lib.hid (fun hg => by rw [← hg5, hg, Bool.true_and]; rfl)
 have F2 : Hid (g1 = false → g2 = false) := Lib.hid (fun hg => by rw [← hg2, hg]; rfl)
 have F3 : Hid (g2 = false → g3 = false) := Lib.hid (fun hg => by rw [← hg3, hg]; rfl)
 have F4 : Hid (g3 = false → g4 = false) := Lib.hid (fun hg => by rw [← hg4, hg]; rfl)
 have F5 : Hid (g4 = false → g5 = false) := Lib.hid (fun hg => by rw [← hg5, hg]; rfl)
 have F6 : Hid (g5 = false → g6 = false) := Lib.hid (fun hg => by rw [← Np, hg]; rfl)
 have G5 : Hid (g5 = true → g1 = true ∧ g2 = true ∧ gK r c x = true ∧ gK r' c' l = true ∧ c = 1 ∧ r' = r ∧ c' = r) := Lib.hid (fun hg => by
  have a5 := hg5
  rw [hg, Bool.and_eq_true, beq_iff_eq] at a5
  have a4 := hg4
  rw [a5.1, Bool.and_eq_true, beq_iff_eq] at a4
  have a3 := hg3
  rw [a4.1, Bool.and_eq_true, beq_iff_eq] at a3
  have a2 := hg2
  rw [a3.1, Bool.and_eq_true] at a2
  exact ⟨a2.1, a3.1, hg1.trans a2.1, a2.2, a3.2, a4.2, a5.2⟩)
 have SH : Hid (g5 = true → ∃ n : Nat, r = n ∧ c = 1 ∧ r' = n ∧ c' = n ∧ 1 ≤ n ∧ n ≤ 8 ∧ l.length = n * n) := Lib.hid (fun hg => by
  obtain ⟨_, _, p1, p2, rfl, rfl, rfl⟩ := G5.out hg
  obtain ⟨a1, a2, _, _, _, _⟩ := jM p1
  obtain ⟨_, _, _, _, b5, _⟩ := jM p2
  exact ⟨c'.toNat, by omega, rfl, by omega, by omega, by omega, by omega, b5⟩)
 have T77 : Hid (g5 = true → ∀ w', Below w1.heap.size w1 w' → Calls Try.prog 77 #[.agg #[I r', I c', .slice B l.length cp']] w' fun e w'' => ∃ Q dq, e = .returned (.agg #[I r', I c', .slice Q l.length dq]) ∧ (Rd w'' Q L ∧ l.length ≤ dq) ∧ Below w'.heap.size w' w'') := Lib.hid (fun hg w' h => by
  obtain ⟨n, hr, hc, hr', hc', h1, h8, hl⟩ := SH.out hg
  have hh := jF n n B cp' l w' h8 h8 hl (HB.out.below (B0.out.trans (h.mono B0.out.size)))
  rw [hr', hc']
  refine hh.mono ?_
  rintro e w'' ⟨v, rfl, ho, hb⟩
  have hL : qJ n n l = L := by rw [← Qy, hr]; rfl
  have hlen : (qJ n n l).length = l.length := by rw [lK, hl]
  obtain ⟨Q, dq, rfl, _, _⟩ := Own.reads ho
  have hr := Own.rd ho
  rw [hlen] at hr ⊢
  rw [hL] at hr
  exact ⟨Q, dq, rfl, hr, hb⟩)
 have T76 : Hid (g5 = true → ∀ w' Q dq, Below w1.heap.size w1 w' → Rd w' Q L → l.length ≤ dq → Calls Try.prog 76 #[.agg #[I r', I c', .slice B l.length cp'], .agg #[I r', I c', .slice Q l.length dq]] w' fun e w'' => e = .returned (.bool g6) ∧ Below w'.heap.size w' w'') := Lib.hid (fun hg w' Q dq h hq hd => by
  obtain ⟨n, hr, hc, hr', hc', h1, h8, hl⟩ := SH.out hg
  have n64 := UF h8
  have hlen : L.length = l.length := by rw [← Qy, lK, hr, hl]; rfl
  have e1 := tN r' c' r' c' l L (by omega)
  have e2 : decide (r' = r' ∧ c' = c' ∧ l = L) = g6 := by
   rw [← Np, hg, Bool.true_and]
   by_cases h : l = L <;> simp [h]
  rw [e2] at e1
  obtain ⟨k, hk⟩ := e1.rounds
  have hh := eY.calls k r' c' B cp' l r' c' Q dq L _ w' (HB.out.below (B0.out.trans (h.mono B0.out.size))) KB.out hq (by omega) hk
  rw [hlen] at hh
  exact hh)
 have G6 : Hid (g6 = true ↔ (g5 = true ∧ l = L)) := Lib.hid (by rw [← Np, Bool.and_eq_true, decide_eq_true_eq])
 have G7 : Hid (g6 = true → ∃ n : Nat, r = n ∧ c = 1 ∧ r' = n ∧ c' = n ∧ n ≤ 8 ∧ l.length = n * n ∧ (gJ r c x r' c' l ↔ Lt n l 0)) := Lib.hid (fun hg => by
  have h5 := (G6.out.1 hg).1
  obtain ⟨n, hr, hc, hr', hc', h1, h8, hl⟩ := SH.out h5
  obtain ⟨_, _, p1, p2, _⟩ := G5.out h5
  refine ⟨n, hr, hc, hr', hc', h8, hl, ?_⟩
  have et : l = qJ n n l := by
   have := (G6.out.1 hg).2
   rw [← Qy, hr] at this
   exact this
  have hte := uO n l hl
  subst hr hc hr' hc'
  exact ⟨fun h => (hte.2 h.2.2.2.2.2).2, fun h => ⟨p1, p2, rfl, rfl, rfl, hte.1 ⟨et, h⟩⟩⟩)
 have GF : Hid (g6 = false → ¬ gJ r c x r' c' l) := Lib.hid (fun hg h => by
  obtain ⟨p1, p2, e1, e2, e3, he⟩ := h
  have h5 : g5 = true := by
   rw [← hg5, ← hg4, ← hg3, ← hg2, ← hg1, p1, p2, e1, e2, e3]
   simp
  have hb := (jM p2).2.2.2.2.1
  have hl : l.length = r.toNat * r.toNat := by rw [hb, e2, e3]
  have := G6.out.2 ⟨h5, by rw [← Qy]; exact ((uO r.toNat l hl).2 he).1⟩
  rw [hg] at this
  cases this)
 clear hg1 hg2 hg3 hg4 hg5 Np Qy
 go_upto_region 2 with fail
 refine OG.vC (by kernel_rfl) (fun l0 a w => ∃ Q : Option Addr, ∃ dq : Nat, a = { tmps := List.toArray (Value.agg #[I r, I c, Value.slice A x.length cp, I r', I c', Value.slice B l.length cp'] :: Value.pointer (some ⟨w0.heap.size, 0, none⟩) :: Value.bool false :: I r :: undef :: Value.pointer (some ⟨w0.heap.size, 0, none⟩) :: Value.pointer (some ⟨w0.heap.size, 0, none⟩) :: I r :: (bif l0 0 then Value.pointer (some ⟨w0.heap.size, 0, none⟩) else undef) :: (bif l0 1 then .agg #[I r, I c, .slice A x.length cp] else undef) :: (bif l0 2 then .bool g1 else undef) :: (bif l0 3 then .bool (!g1) else undef) :: (bif l0 4 then .bool (!g1) else undef) :: (bif l0 5 then (bif g1 then Value.pointer (some ⟨w0.heap.size, 3, none⟩) else undef) else undef) :: (bif l0 6 then (bif g1 then .agg #[I r', I c', .slice B l.length cp'] else undef) else undef) :: (bif l0 7 then (bif g1 then .bool g2 else undef) else undef) :: (bif l0 8 then (bif g1 then .bool (!g2) else undef) else undef) :: (bif l0 9 then .bool (!g2) else undef) :: (bif l0 10 then .bool (!g2) else undef) :: (bif l0 11 then (bif g2 then Value.pointer (some ⟨w0.heap.size, 0, none⟩) else undef) else undef) :: (bif l0 12 then (bif g2 then Value.pointer (some ⟨w0.heap.size, 1, none⟩) else undef) else undef) :: (bif l0 13 then (bif g2 then I c else undef) else undef) :: (bif l0 14 then (bif g2 then .bool (!g3) else undef) else undef) :: (bif l0 15 then .bool (!g3) else undef) :: (bif l0 16 then .bool (!g3) else undef) :: (bif l0 17 then (bif g3 then Value.pointer (some ⟨w0.heap.size, 3, none⟩) else undef) else undef) :: (bif l0 18 then (bif g3 then Value.pointer (some ⟨w0.heap.size, 3, none⟩) else undef) else undef) :: (bif l0 19 then (bif g3 then I r' else undef) else undef) :: (bif l0 20 then (bif g3 then I r else undef) else undef) :: (bif l0 21 then (bif g3 then .bool (!g4) else undef) else undef) :: (bif l0 22 then .bool (!g4) else undef) :: (bif l0 23 then .bool (!g4) else undef) :: (bif l0 24 then (bif g4 then Value.pointer (some ⟨w0.heap.size, 3, none⟩) else undef) else undef) :: (bif l0 25 then (bif g4 then Value.pointer (some ⟨w0.heap.size, 4, none⟩) else undef) else undef) :: (bif l0 26 then (bif g4 then I c' else undef) else undef) :: (bif l0 27 then (bif g4 then I r else undef) else undef) :: (bif l0 28 then (bif g4 then .bool (!g5) else undef) else undef) :: (bif l0 29 then .bool (!g5) else undef) :: (bif l0 30 then .bool (!g5) else undef) :: (bif l0 31 then (bif g5 then Value.pointer (some ⟨w0.heap.size, 3, none⟩) else undef) else undef) :: (bif l0 32 then (bif g5 then .agg #[I r', I c', .slice B l.length cp'] else undef) else undef) :: (bif l0 33 then (bif g5 then Value.pointer (some ⟨w0.heap.size, 3, none⟩) else undef) else undef) :: (bif l0 34 then (bif g5 then .agg #[I r', I c', .slice B l.length cp'] else undef) else undef) :: (bif l0 35 then (bif g5 then .agg #[I r', I c', .slice Q l.length dq] else undef) else undef) :: (bif l0 36 then (bif g5 then .bool g6 else undef) else undef) :: (bif l0 37 then (bif g5 then .bool (!g6) else undef) else undef) :: (bif l0 38 then .bool (!g6) else undef) :: undef :: undef :: undef :: undef :: undef :: undef :: undef :: undef :: undef :: undef :: undef :: undef :: undef :: undef :: undef :: undef :: []), defers := [] } ∧ (Below w1.heap.size w1 w) ∧ (l0 35 = true → g5 = true → Rd w Q L ∧ l.length ≤ dq)) (by kernel_rfl) ?s0 ?ss ?se
 case s0 => exact ⟨none, 0, rfl, (Below.refl _ _).drew, (fun h => by cases h)⟩
 case ss =>
  refine OG.Steps.cons rfl (fun l0 a w K hK hJ hcl h0 hd => ?_) (OG.Steps.cons rfl (fun l0 a w K hK hJ hcl h0 hd => ?_) (OG.Steps.cons rfl (fun l0 a w K hK hJ hcl h0 hd => ?_) (OG.Steps.cons rfl (fun l0 a w K hK hJ hcl h0 hd => ?_) (OG.Steps.cons rfl (fun l0 a w K hK hJ hcl h0 hd => ?_) (OG.Steps.opt (gi := 4) (dst := 12) g1 rfl rfl (fun l0 a w hJ hd => by obtain ⟨Q, dq, rfl, hP0, hP1⟩ := hJ; have dg := hd.get 4 (by rfl); show (some (bif l0 4 then .bool (!g1) else undef) : Option Value) = some _; rw [dg]; cases g1 <;> rfl) (fun l0 a w K hK hJ hcl h0 hd => ⟨fun hg => ?_, fun hg => ?_⟩) (OG.Steps.opt (gi := 4) (dst := 12) g1 rfl rfl (fun l0 a w hJ hd => by obtain ⟨Q, dq, rfl, hP0, hP1⟩ := hJ; have dg := hd.get 4 (by rfl); show (some (bif l0 4 then .bool (!g1) else undef) : Option Value) = some _; rw [dg]; cases g1 <;> rfl) (fun l0 a w K hK hJ hcl h0 hd => ⟨fun hg => ?_, fun hg => ?_⟩) (OG.Steps.opt (gi := 4) (dst := 12) g1 rfl rfl (fun l0 a w hJ hd => by obtain ⟨Q, dq, rfl, hP0, hP1⟩ := hJ; have dg := hd.get 4 (by rfl); show (some (bif l0 4 then .bool (!g1) else undef) : Option Value) = some _; rw [dg]; cases g1 <;> rfl) (fun l0 a w K hK hJ hcl h0 hd => ⟨fun hg => ?_, fun hg => ?_⟩) (OG.Steps.opt (gi := 4) (dst := 12) g1 rfl rfl (fun l0 a w hJ hd => by obtain ⟨Q, dq, rfl, hP0, hP1⟩ := hJ; have dg := hd.get 4 (by rfl); show (some (bif l0 4 then .bool (!g1) else undef) : Option Value) = some _; rw [dg]; cases g1 <;> rfl) (fun l0 a w K hK hJ hcl h0 hd => ⟨fun hg => ?_, fun hg => ?_⟩) (OG.Steps.cons rfl (fun l0 a w K hK hJ hcl h0 hd => ?_) (OG.Steps.cons rfl (fun l0 a w K hK hJ hcl h0 hd => ?_) (OG.Steps.opt (gi := 10) (dst := 18) g2 rfl rfl (fun l0 a w hJ hd => by obtain ⟨Q, dq, rfl, hP0, hP1⟩ := hJ; have dg := hd.get 10 (by rfl); show (some (bif l0 10 then .bool (!g2) else undef) : Option Value) = some _; rw [dg]; cases g2 <;> rfl) (fun l0 a w K hK hJ hcl h0 hd => ⟨fun hg => ?_, fun hg => ?_⟩) (OG.Steps.opt (gi := 10) (dst := 18) g2 rfl rfl (fun l0 a w hJ hd => by obtain ⟨Q, dq, rfl, hP0, hP1⟩ := hJ; have dg := hd.get 10 (by rfl); show (some (bif l0 10 then .bool (!g2) else undef) : Option Value) = some _; rw [dg]; cases g2 <;> rfl) (fun l0 a w K hK hJ hcl h0 hd => ⟨fun hg => ?_, fun hg => ?_⟩) (OG.Steps.opt (gi := 10) (dst := 18) g2 rfl rfl (fun l0 a w hJ hd => by obtain ⟨Q, dq, rfl, hP0, hP1⟩ := hJ; have dg := hd.get 10 (by rfl); show (some (bif l0 10 then .bool (!g2) else undef) : Option Value) = some _; rw [dg]; cases g2 <;> rfl) (fun l0 a w K hK hJ hcl h0 hd => ⟨fun hg => ?_, fun hg => ?_⟩) (OG.Steps.opt (gi := 10) (dst := 18) g2 rfl rfl (fun l0 a w hJ hd => by obtain ⟨Q, dq, rfl, hP0, hP1⟩ := hJ; have dg := hd.get 10 (by rfl); show (some (bif l0 10 then .bool (!g2) else undef) : Option Value) = some _; rw [dg]; cases g2 <;> rfl) (fun l0 a w K hK hJ hcl h0 hd => ⟨fun hg => ?_, fun hg => ?_⟩) (OG.Steps.cons rfl (fun l0 a w K hK hJ hcl h0 hd => ?_) (OG.Steps.cons rfl (fun l0 a w K hK hJ hcl h0 hd => ?_) (OG.Steps.opt (gi := 16) (dst := 24) g3 rfl rfl (fun l0 a w hJ hd => by obtain ⟨Q, dq, rfl, hP0, hP1⟩ := hJ; have dg := hd.get 16 (by rfl); show (some (bif l0 16 then .bool (!g3) else undef) : Option Value) = some _; rw [dg]; cases g3 <;> rfl) (fun l0 a w K hK hJ hcl h0 hd => ⟨fun hg => ?_, fun hg => ?_⟩) (OG.Steps.opt (gi := 16) (dst := 24) g3 rfl rfl (fun l0 a w hJ hd => by obtain ⟨Q, dq, rfl, hP0, hP1⟩ := hJ; have dg := hd.get 16 (by rfl); show (some (bif l0 16 then .bool (!g3) else undef) : Option Value) = some _; rw [dg]; cases g3 <;> rfl) (fun l0 a w K hK hJ hcl h0 hd => ⟨fun hg => ?_, fun hg => ?_⟩) (OG.Steps.opt (gi := 16) (dst := 24) g3 rfl rfl (fun l0 a w hJ hd => by obtain ⟨Q, dq, rfl, hP0, hP1⟩ := hJ; have dg := hd.get 16 (by rfl); show (some (bif l0 16 then .bool (!g3) else undef) : Option Value) = some _; rw [dg]; cases g3 <;> rfl) (fun l0 a w K hK hJ hcl h0 hd => ⟨fun hg => ?_, fun hg => ?_⟩) (OG.Steps.opt (gi := 16) (dst := 24) g3 rfl rfl (fun l0 a w hJ hd => by obtain ⟨Q, dq, rfl, hP0, hP1⟩ := hJ; have dg := hd.get 16 (by rfl); show (some (bif l0 16 then .bool (!g3) else undef) : Option Value) = some _; rw [dg]; cases g3 <;> rfl) (fun l0 a w K hK hJ hcl h0 hd => ⟨fun hg => ?_, fun hg => ?_⟩) (OG.Steps.opt (gi := 16) (dst := 24) g3 rfl rfl (fun l0 a w hJ hd => by obtain ⟨Q, dq, rfl, hP0, hP1⟩ := hJ; have dg := hd.get 16 (by rfl); show (some (bif l0 16 then .bool (!g3) else undef) : Option Value) = some _; rw [dg]; cases g3 <;> rfl) (fun l0 a w K hK hJ hcl h0 hd => ⟨fun hg => ?_, fun hg => ?_⟩) (OG.Steps.cons rfl (fun l0 a w K hK hJ hcl h0 hd => ?_) (OG.Steps.cons rfl (fun l0 a w K hK hJ hcl h0 hd => ?_) (OG.Steps.opt (gi := 23) (dst := 31) g4 rfl rfl (fun l0 a w hJ hd => by obtain ⟨Q, dq, rfl, hP0, hP1⟩ := hJ; have dg := hd.get 23 (by rfl); show (some (bif l0 23 then .bool (!g4) else undef) : Option Value) = some _; rw [dg]; cases g4 <;> rfl) (fun l0 a w K hK hJ hcl h0 hd => ⟨fun hg => ?_, fun hg => ?_⟩) (OG.Steps.opt (gi := 23) (dst := 31) g4 rfl rfl (fun l0 a w hJ hd => by obtain ⟨Q, dq, rfl, hP0, hP1⟩ := hJ; have dg := hd.get 23 (by rfl); show (some (bif l0 23 then .bool (!g4) else undef) : Option Value) = some _; rw [dg]; cases g4 <;> rfl) (fun l0 a w K hK hJ hcl h0 hd => ⟨fun hg => ?_, fun hg => ?_⟩) (OG.Steps.opt (gi := 23) (dst := 31) g4 rfl rfl (fun l0 a w hJ hd => by obtain ⟨Q, dq, rfl, hP0, hP1⟩ := hJ; have dg := hd.get 23 (by rfl); show (some (bif l0 23 then .bool (!g4) else undef) : Option Value) = some _; rw [dg]; cases g4 <;> rfl) (fun l0 a w K hK hJ hcl h0 hd => ⟨fun hg => ?_, fun hg => ?_⟩) (OG.Steps.opt (gi := 23) (dst := 31) g4 rfl rfl (fun l0 a w hJ hd => by obtain ⟨Q, dq, rfl, hP0, hP1⟩ := hJ; have dg := hd.get 23 (by rfl); show (some (bif l0 23 then .bool (!g4) else undef) : Option Value) = some _; rw [dg]; cases g4 <;> rfl) (fun l0 a w K hK hJ hcl h0 hd => ⟨fun hg => ?_, fun hg => ?_⟩) (OG.Steps.opt (gi := 23) (dst := 31) g4 rfl rfl (fun l0 a w hJ hd => by obtain ⟨Q, dq, rfl, hP0, hP1⟩ := hJ; have dg := hd.get 23 (by rfl); show (some (bif l0 23 then .bool (!g4) else undef) : Option Value) = some _; rw [dg]; cases g4 <;> rfl) (fun l0 a w K hK hJ hcl h0 hd => ⟨fun hg => ?_, fun hg => ?_⟩) (OG.Steps.cons rfl (fun l0 a w K hK hJ hcl h0 hd => ?_) (OG.Steps.cons rfl (fun l0 a w K hK hJ hcl h0 hd => ?_) (OG.Steps.opt (gi := 30) (dst := 38) g5 rfl rfl (fun l0 a w hJ hd => by obtain ⟨Q, dq, rfl, hP0, hP1⟩ := hJ; have dg := hd.get 30 (by rfl); show (some (bif l0 30 then .bool (!g5) else undef) : Option Value) = some _; rw [dg]; cases g5 <;> rfl) (fun l0 a w K hK hJ hcl h0 hd => ⟨fun hg => ?_, fun hg => ?_⟩) (OG.Steps.opt (gi := 30) (dst := 38) g5 rfl rfl (fun l0 a w hJ hd => by obtain ⟨Q, dq, rfl, hP0, hP1⟩ := hJ; have dg := hd.get 30 (by rfl); show (some (bif l0 30 then .bool (!g5) else undef) : Option Value) = some _; rw [dg]; cases g5 <;> rfl) (fun l0 a w K hK hJ hcl h0 hd => ⟨fun hg => ?_, fun hg => ?_⟩) (OG.Steps.opt (gi := 30) (dst := 38) g5 rfl rfl (fun l0 a w hJ hd => by obtain ⟨Q, dq, rfl, hP0, hP1⟩ := hJ; have dg := hd.get 30 (by rfl); show (some (bif l0 30 then .bool (!g5) else undef) : Option Value) = some _; rw [dg]; cases g5 <;> rfl) (fun l0 a w K hK hJ hcl h0 hd => ⟨fun hg => ?_, fun hg => ?_⟩) (OG.Steps.opt (gi := 30) (dst := 38) g5 rfl rfl (fun l0 a w hJ hd => by obtain ⟨Q, dq, rfl, hP0, hP1⟩ := hJ; have dg := hd.get 30 (by rfl); show (some (bif l0 30 then .bool (!g5) else undef) : Option Value) = some _; rw [dg]; cases g5 <;> rfl) (fun l0 a w K hK hJ hcl h0 hd => ⟨fun hg => ?_, fun hg => ?_⟩) (OG.Steps.opt (gi := 30) (dst := 38) g5 rfl rfl (fun l0 a w hJ hd => by obtain ⟨Q, dq, rfl, hP0, hP1⟩ := hJ; have dg := hd.get 30 (by rfl); show (some (bif l0 30 then .bool (!g5) else undef) : Option Value) = some _; rw [dg]; cases g5 <;> rfl) (fun l0 a w K hK hJ hcl h0 hd => ⟨fun hg => ?_, fun hg => ?_⟩) (OG.Steps.opt (gi := 30) (dst := 38) g5 rfl rfl (fun l0 a w hJ hd => by obtain ⟨Q, dq, rfl, hP0, hP1⟩ := hJ; have dg := hd.get 30 (by rfl); show (some (bif l0 30 then .bool (!g5) else undef) : Option Value) = some _; rw [dg]; cases g5 <;> rfl) (fun l0 a w K hK hJ hcl h0 hd => ⟨fun hg => ?_, fun hg => ?_⟩) (OG.Steps.opt (gi := 30) (dst := 38) g5 rfl rfl (fun l0 a w hJ hd => by obtain ⟨Q, dq, rfl, hP0, hP1⟩ := hJ; have dg := hd.get 30 (by rfl); show (some (bif l0 30 then .bool (!g5) else undef) : Option Value) = some _; rw [dg]; cases g5 <;> rfl) (fun l0 a w K hK hJ hcl h0 hd => ⟨fun hg => ?_, fun hg => ?_⟩) (OG.Steps.cons rfl (fun l0 a w K hK hJ hcl h0 hd => ?_) OG.Steps.nil))))))))))))))))))))))))))))))))))))))
  · obtain ⟨Q, dq, rfl, hP0, hP1⟩ := hJ
    have HJ := Lib.hid (And.intro hP0 (hP1))
    clear hP0 hP1 hd hcl h0
    go_simp
    exact hK.out _ _ ⟨Q, dq, (rfl), (HJ.out.1), (HJ.out.2)⟩
  · obtain ⟨Q, dq, rfl, hP0, hP1⟩ := hJ
    have d0 := hd.get 0 (by rfl)
    have HJ := Lib.hid (And.intro hP0 (hP1))
    clear hP0 hP1 hd hcl h0
    have hx := (NB.out.below HJ.out.1 NB.out.lt).cell
    go_simp
    exact hK.out _ _ ⟨Q, dq, (by simp only [OG.upd, d0]; rfl), (HJ.out.1), (HJ.out.2)⟩
  · obtain ⟨Q, dq, rfl, hP0, hP1⟩ := hJ
    have d1 := hd.get 1 (by rfl)
    have HJ := Lib.hid (And.intro hP0 (hP1))
    clear hP0 hP1 hd hcl h0
    go_simp
    refine (Ru.out _ HJ.out.1).mono ?_
    rintro e w' ⟨rfl, hb⟩
    exact hK.out _ _ ⟨Q, dq, (by simp only [OG.upd, d1]; rfl), (HJ.out.1.trans (hb.mono HJ.out.1.size)), (fun h hg => ⟨(HJ.out.2 h hg).1.below hb, (HJ.out.2 h hg).2⟩)⟩
  · obtain ⟨Q, dq, rfl, hP0, hP1⟩ := hJ
    have d2 := hd.get 2 (by rfl)
    have HJ := Lib.hid (And.intro hP0 (hP1))
    clear hP0 hP1 hd hcl h0
    go_simp
    exact hK.out _ _ ⟨Q, dq, (by simp only [OG.upd, d2]; rfl), (HJ.out.1), (HJ.out.2)⟩
  · obtain ⟨Q, dq, rfl, hP0, hP1⟩ := hJ
    have d3 := hd.get 3 (by rfl)
    have HJ := Lib.hid (And.intro hP0 (hP1))
    clear hP0 hP1 hd hcl h0
    go_simp
    exact hK.out _ _ ⟨Q, dq, (by simp only [OG.upd, d3]; rfl), (HJ.out.1), (HJ.out.2)⟩
  · obtain ⟨Q, dq, rfl, hP0, hP1⟩ := hJ
    have HJ := Lib.hid (And.intro hP0 (hP1))
    clear hP0 hP1 hd hcl h0
    go_simp
    exact hK.out _ _ ⟨Q, dq, (by simp only [OG.upd, hg]; rfl), (HJ.out.1), (HJ.out.2)⟩
  · obtain ⟨Q, dq, rfl, hP0, hP1⟩ := hJ
    have HJ := Lib.hid (And.intro hP0 (hP1))
    clear hP0 hP1 hd hcl h0
    exact hK.out _ _ ⟨Q, dq, (by simp only [OG.upd, hg, cond_false, Bool.cond_self]; rfl), (HJ.out.1), (HJ.out.2)⟩
  · obtain ⟨Q, dq, rfl, hP0, hP1⟩ := hJ
    have d5 := hd.get 5 (by rfl)
    have HJ := Lib.hid (And.intro hP0 (hP1))
    clear hP0 hP1 hd hcl h0
    have hx := (NB.out.below HJ.out.1 NB.out.lt).cell
    go_simp
    exact hK.out _ _ ⟨Q, dq, (by simp only [OG.upd, d5, hg]; rfl), (HJ.out.1), (HJ.out.2)⟩
  · obtain ⟨Q, dq, rfl, hP0, hP1⟩ := hJ
    have d5 := hd.get 5 (by rfl)
    have HJ := Lib.hid (And.intro hP0 (hP1))
    clear hP0 hP1 hd hcl h0
    exact hK.out _ _ ⟨Q, dq, (by simp only [OG.upd, d5, hg, cond_false, Bool.cond_self]; rfl), (HJ.out.1), (HJ.out.2)⟩
  · obtain ⟨Q, dq, rfl, hP0, hP1⟩ := hJ
    have d6 := hd.get 6 (by rfl)
    have HJ := Lib.hid (And.intro hP0 (hP1))
    clear hP0 hP1 hd hcl h0
    go_simp
    refine (Rt.out hg _ HJ.out.1).mono ?_
    rintro e w' ⟨rfl, hb⟩
    exact hK.out _ _ ⟨Q, dq, (by simp only [OG.upd, d6, hg]; rfl), (HJ.out.1.trans (hb.mono HJ.out.1.size)), (fun h hg => ⟨(HJ.out.2 h hg).1.below hb, (HJ.out.2 h hg).2⟩)⟩
  · obtain ⟨Q, dq, rfl, hP0, hP1⟩ := hJ
    have d6 := hd.get 6 (by rfl)
    have HJ := Lib.hid (And.intro hP0 (hP1))
    clear hP0 hP1 hd hcl h0
    exact hK.out _ _ ⟨Q, dq, (by simp only [OG.upd, d6, hg, cond_false, Bool.cond_self]; rfl), (HJ.out.1), (HJ.out.2)⟩
  · obtain ⟨Q, dq, rfl, hP0, hP1⟩ := hJ
    have d7 := hd.get 7 (by rfl)
    have HJ := Lib.hid (And.intro hP0 (hP1))
    clear hP0 hP1 hd hcl h0
    go_simp
    exact hK.out _ _ ⟨Q, dq, (by simp only [OG.upd, d7, hg]; rfl), (HJ.out.1), (HJ.out.2)⟩
  · obtain ⟨Q, dq, rfl, hP0, hP1⟩ := hJ
    have d7 := hd.get 7 (by rfl)
    have HJ := Lib.hid (And.intro hP0 (hP1))
    clear hP0 hP1 hd hcl h0
    exact hK.out _ _ ⟨Q, dq, (by simp only [OG.upd, d7, hg, cond_false, Bool.cond_self]; rfl), (HJ.out.1), (HJ.out.2)⟩
  · obtain ⟨Q, dq, rfl, hP0, hP1⟩ := hJ
    have d4 := hd.get 4 (by rfl)
    have d8 := hd.get 8 (by rfl)
    have HJ := Lib.hid (And.intro hP0 (hP1))
    clear hP0 hP1 hd hcl h0
    rcases Bool.eq_false_or_eq_true g1 with hg | hg
    · go_simp
      exact hK.out _ _ ⟨Q, dq, (by simp only [OG.upd, d4, d8, hg, cond_false, cond_true, Bool.cond_self]; rfl), (HJ.out.1), (HJ.out.2)⟩
    · have h2 := F2.out hg
      go_simp
      exact hK.out _ _ ⟨Q, dq, (by simp only [OG.upd, d4, d8, hg, h2, cond_false, cond_true, Bool.cond_self]; rfl), (HJ.out.1), (HJ.out.2)⟩
  · obtain ⟨Q, dq, rfl, hP0, hP1⟩ := hJ
    have d9 := hd.get 9 (by rfl)
    have HJ := Lib.hid (And.intro hP0 (hP1))
    clear hP0 hP1 hd hcl h0
    go_simp
    exact hK.out _ _ ⟨Q, dq, (by simp only [OG.upd, d9]; rfl), (HJ.out.1), (HJ.out.2)⟩
  · obtain ⟨Q, dq, rfl, hP0, hP1⟩ := hJ
    have HJ := Lib.hid (And.intro hP0 (hP1))
    clear hP0 hP1 hd hcl h0
    go_simp
    exact hK.out _ _ ⟨Q, dq, (by simp only [OG.upd, hg]; rfl), (HJ.out.1), (HJ.out.2)⟩
  · obtain ⟨Q, dq, rfl, hP0, hP1⟩ := hJ
    have HJ := Lib.hid (And.intro hP0 (hP1))
    clear hP0 hP1 hd hcl h0
    exact hK.out _ _ ⟨Q, dq, (by simp only [OG.upd, hg, cond_false, Bool.cond_self]; rfl), (HJ.out.1), (HJ.out.2)⟩
  · obtain ⟨Q, dq, rfl, hP0, hP1⟩ := hJ
    have d11 := hd.get 11 (by rfl)
    have HJ := Lib.hid (And.intro hP0 (hP1))
    clear hP0 hP1 hd hcl h0
    go_simp
    exact hK.out _ _ ⟨Q, dq, (by simp only [OG.upd, d11, hg]; rfl), (HJ.out.1), (HJ.out.2)⟩
  · obtain ⟨Q, dq, rfl, hP0, hP1⟩ := hJ
    have d11 := hd.get 11 (by rfl)
    have HJ := Lib.hid (And.intro hP0 (hP1))
    clear hP0 hP1 hd hcl h0
    exact hK.out _ _ ⟨Q, dq, (by simp only [OG.upd, d11, hg, cond_false, Bool.cond_self]; rfl), (HJ.out.1), (HJ.out.2)⟩
  · obtain ⟨Q, dq, rfl, hP0, hP1⟩ := hJ
    have d12 := hd.get 12 (by rfl)
    have HJ := Lib.hid (And.intro hP0 (hP1))
    clear hP0 hP1 hd hcl h0
    have hx := (NB.out.below HJ.out.1 NB.out.lt).cell
    go_simp
    exact hK.out _ _ ⟨Q, dq, (by simp only [OG.upd, d12, hg]; rfl), (HJ.out.1), (HJ.out.2)⟩
  · obtain ⟨Q, dq, rfl, hP0, hP1⟩ := hJ
    have d12 := hd.get 12 (by rfl)
    have HJ := Lib.hid (And.intro hP0 (hP1))
    clear hP0 hP1 hd hcl h0
    exact hK.out _ _ ⟨Q, dq, (by simp only [OG.upd, d12, hg, cond_false, Bool.cond_self]; rfl), (HJ.out.1), (HJ.out.2)⟩
  · obtain ⟨Q, dq, rfl, hP0, hP1⟩ := hJ
    have d13 := hd.get 13 (by rfl)
    have HJ := Lib.hid (And.intro hP0 (hP1))
    clear hP0 hP1 hd hcl h0
    have e3 := E3.out hg
    go_simp
    exact hK.out _ _ ⟨Q, dq, (by simp only [OG.upd, d13, hg, e3]; rfl), (HJ.out.1), (HJ.out.2)⟩
  · obtain ⟨Q, dq, rfl, hP0, hP1⟩ := hJ
    have d13 := hd.get 13 (by rfl)
    have HJ := Lib.hid (And.intro hP0 (hP1))
    clear hP0 hP1 hd hcl h0
    exact hK.out _ _ ⟨Q, dq, (by simp only [OG.upd, d13, hg, cond_false, Bool.cond_self]; rfl), (HJ.out.1), (HJ.out.2)⟩
  · obtain ⟨Q, dq, rfl, hP0, hP1⟩ := hJ
    have d10 := hd.get 10 (by rfl)
    have d14 := hd.get 14 (by rfl)
    have HJ := Lib.hid (And.intro hP0 (hP1))
    clear hP0 hP1 hd hcl h0
    rcases Bool.eq_false_or_eq_true g2 with hg | hg
    · go_simp
      exact hK.out _ _ ⟨Q, dq, (by simp only [OG.upd, d10, d14, hg, cond_false, cond_true, Bool.cond_self]; rfl), (HJ.out.1), (HJ.out.2)⟩
    · have h2 := F3.out hg
      go_simp
      exact hK.out _ _ ⟨Q, dq, (by simp only [OG.upd, d10, d14, hg, h2, cond_false, cond_true, Bool.cond_self]; rfl), (HJ.out.1), (HJ.out.2)⟩
  · obtain ⟨Q, dq, rfl, hP0, hP1⟩ := hJ
    have d15 := hd.get 15 (by rfl)
    have HJ := Lib.hid (And.intro hP0 (hP1))
    clear hP0 hP1 hd hcl h0
    go_simp
    exact hK.out _ _ ⟨Q, dq, (by simp only [OG.upd, d15]; rfl), (HJ.out.1), (HJ.out.2)⟩
  · obtain ⟨Q, dq, rfl, hP0, hP1⟩ := hJ
    have HJ := Lib.hid (And.intro hP0 (hP1))
    clear hP0 hP1 hd hcl h0
    go_simp
    exact hK.out _ _ ⟨Q, dq, (by simp only [OG.upd, hg]; rfl), (HJ.out.1), (HJ.out.2)⟩
  · obtain ⟨Q, dq, rfl, hP0, hP1⟩ := hJ
    have HJ := Lib.hid (And.intro hP0 (hP1))
    clear hP0 hP1 hd hcl h0
    exact hK.out _ _ ⟨Q, dq, (by simp only [OG.upd, hg, cond_false, Bool.cond_self]; rfl), (HJ.out.1), (HJ.out.2)⟩
  · obtain ⟨Q, dq, rfl, hP0, hP1⟩ := hJ
    have d17 := hd.get 17 (by rfl)
    have HJ := Lib.hid (And.intro hP0 (hP1))
    clear hP0 hP1 hd hcl h0
    go_simp
    exact hK.out _ _ ⟨Q, dq, (by simp only [OG.upd, d17, hg]; rfl), (HJ.out.1), (HJ.out.2)⟩
  · obtain ⟨Q, dq, rfl, hP0, hP1⟩ := hJ
    have d17 := hd.get 17 (by rfl)
    have HJ := Lib.hid (And.intro hP0 (hP1))
    clear hP0 hP1 hd hcl h0
    exact hK.out _ _ ⟨Q, dq, (by simp only [OG.upd, d17, hg, cond_false, Bool.cond_self]; rfl), (HJ.out.1), (HJ.out.2)⟩
  · obtain ⟨Q, dq, rfl, hP0, hP1⟩ := hJ
    have d18 := hd.get 18 (by rfl)
    have HJ := Lib.hid (And.intro hP0 (hP1))
    clear hP0 hP1 hd hcl h0
    have hx := (NB.out.below HJ.out.1 NB.out.lt).cell
    go_simp
    exact hK.out _ _ ⟨Q, dq, (by simp only [OG.upd, d18, hg]; rfl), (HJ.out.1), (HJ.out.2)⟩
  · obtain ⟨Q, dq, rfl, hP0, hP1⟩ := hJ
    have d18 := hd.get 18 (by rfl)
    have HJ := Lib.hid (And.intro hP0 (hP1))
    clear hP0 hP1 hd hcl h0
    exact hK.out _ _ ⟨Q, dq, (by simp only [OG.upd, d18, hg, cond_false, Bool.cond_self]; rfl), (HJ.out.1), (HJ.out.2)⟩
  · obtain ⟨Q, dq, rfl, hP0, hP1⟩ := hJ
    have HJ := Lib.hid (And.intro hP0 (hP1))
    clear hP0 hP1 hd hcl h0
    go_simp
    exact hK.out _ _ ⟨Q, dq, (by simp only [OG.upd, hg]; rfl), (HJ.out.1), (HJ.out.2)⟩
  · obtain ⟨Q, dq, rfl, hP0, hP1⟩ := hJ
    have HJ := Lib.hid (And.intro hP0 (hP1))
    clear hP0 hP1 hd hcl h0
    exact hK.out _ _ ⟨Q, dq, (by simp only [OG.upd, hg, cond_false, Bool.cond_self]; rfl), (HJ.out.1), (HJ.out.2)⟩
  · obtain ⟨Q, dq, rfl, hP0, hP1⟩ := hJ
    have d19 := hd.get 19 (by rfl)
    have d20 := hd.get 20 (by rfl)
    have HJ := Lib.hid (And.intro hP0 (hP1))
    clear hP0 hP1 hd hcl h0
    have e4 := E4.out hg
    go_simp
    exact hK.out _ _ ⟨Q, dq, (by simp only [OG.upd, d19, d20, hg, e4]; rfl), (HJ.out.1), (HJ.out.2)⟩
  · obtain ⟨Q, dq, rfl, hP0, hP1⟩ := hJ
    have d19 := hd.get 19 (by rfl)
    have d20 := hd.get 20 (by rfl)
    have HJ := Lib.hid (And.intro hP0 (hP1))
    clear hP0 hP1 hd hcl h0
    exact hK.out _ _ ⟨Q, dq, (by simp only [OG.upd, d19, d20, hg, cond_false, Bool.cond_self]; rfl), (HJ.out.1), (HJ.out.2)⟩
  · obtain ⟨Q, dq, rfl, hP0, hP1⟩ := hJ
    have d16 := hd.get 16 (by rfl)
    have d21 := hd.get 21 (by rfl)
    have HJ := Lib.hid (And.intro hP0 (hP1))
    clear hP0 hP1 hd hcl h0
    rcases Bool.eq_false_or_eq_true g3 with hg | hg
    · go_simp
      exact hK.out _ _ ⟨Q, dq, (by simp only [OG.upd, d16, d21, hg, cond_false, cond_true, Bool.cond_self]; rfl), (HJ.out.1), (HJ.out.2)⟩
    · have h2 := F4.out hg
      go_simp
      exact hK.out _ _ ⟨Q, dq, (by simp only [OG.upd, d16, d21, hg, h2, cond_false, cond_true, Bool.cond_self]; rfl), (HJ.out.1), (HJ.out.2)⟩
  · obtain ⟨Q, dq, rfl, hP0, hP1⟩ := hJ
    have d22 := hd.get 22 (by rfl)
    have HJ := Lib.hid (And.intro hP0 (hP1))
    clear hP0 hP1 hd hcl h0
    go_simp
    exact hK.out _ _ ⟨Q, dq, (by simp only [OG.upd, d22]; rfl), (HJ.out.1), (HJ.out.2)⟩
  · obtain ⟨Q, dq, rfl, hP0, hP1⟩ := hJ
    have HJ := Lib.hid (And.intro hP0 (hP1))
    clear hP0 hP1 hd hcl h0
    go_simp
    exact hK.out _ _ ⟨Q, dq, (by simp only [OG.upd, hg]; rfl), (HJ.out.1), (HJ.out.2)⟩
  · obtain ⟨Q, dq, rfl, hP0, hP1⟩ := hJ
    have HJ := Lib.hid (And.intro hP0 (hP1))
    clear hP0 hP1 hd hcl h0
    exact hK.out _ _ ⟨Q, dq, (by simp only [OG.upd, hg, cond_false, Bool.cond_self]; rfl), (HJ.out.1), (HJ.out.2)⟩
  · obtain ⟨Q, dq, rfl, hP0, hP1⟩ := hJ
    have d24 := hd.get 24 (by rfl)
    have HJ := Lib.hid (And.intro hP0 (hP1))
    clear hP0 hP1 hd hcl h0
    go_simp
    exact hK.out _ _ ⟨Q, dq, (by simp only [OG.upd, d24, hg]; rfl), (HJ.out.1), (HJ.out.2)⟩
  · obtain ⟨Q, dq, rfl, hP0, hP1⟩ := hJ
    have d24 := hd.get 24 (by rfl)
    have HJ := Lib.hid (And.intro hP0 (hP1))
    clear hP0 hP1 hd hcl h0
    exact hK.out _ _ ⟨Q, dq, (by simp only [OG.upd, d24, hg, cond_false, Bool.cond_self]; rfl), (HJ.out.1), (HJ.out.2)⟩
  · obtain ⟨Q, dq, rfl, hP0, hP1⟩ := hJ
    have d25 := hd.get 25 (by rfl)
    have HJ := Lib.hid (And.intro hP0 (hP1))
    clear hP0 hP1 hd hcl h0
    have hx := (NB.out.below HJ.out.1 NB.out.lt).cell
    go_simp
    exact hK.out _ _ ⟨Q, dq, (by simp only [OG.upd, d25, hg]; rfl), (HJ.out.1), (HJ.out.2)⟩
  · obtain ⟨Q, dq, rfl, hP0, hP1⟩ := hJ
    have d25 := hd.get 25 (by rfl)
    have HJ := Lib.hid (And.intro hP0 (hP1))
    clear hP0 hP1 hd hcl h0
    exact hK.out _ _ ⟨Q, dq, (by simp only [OG.upd, d25, hg, cond_false, Bool.cond_self]; rfl), (HJ.out.1), (HJ.out.2)⟩
  · obtain ⟨Q, dq, rfl, hP0, hP1⟩ := hJ
    have HJ := Lib.hid (And.intro hP0 (hP1))
    clear hP0 hP1 hd hcl h0
    go_simp
    exact hK.out _ _ ⟨Q, dq, (by simp only [OG.upd, hg]; rfl), (HJ.out.1), (HJ.out.2)⟩
  · obtain ⟨Q, dq, rfl, hP0, hP1⟩ := hJ
    have HJ := Lib.hid (And.intro hP0 (hP1))
    clear hP0 hP1 hd hcl h0
    exact hK.out _ _ ⟨Q, dq, (by simp only [OG.upd, hg, cond_false, Bool.cond_self]; rfl), (HJ.out.1), (HJ.out.2)⟩
  · obtain ⟨Q, dq, rfl, hP0, hP1⟩ := hJ
    have d26 := hd.get 26 (by rfl)
    have d27 := hd.get 27 (by rfl)
    have HJ := Lib.hid (And.intro hP0 (hP1))
    clear hP0 hP1 hd hcl h0
    have e5 := E5.out hg
    go_simp
    exact hK.out _ _ ⟨Q, dq, (by simp only [OG.upd, d26, d27, hg, e5]; rfl), (HJ.out.1), (HJ.out.2)⟩
  · obtain ⟨Q, dq, rfl, hP0, hP1⟩ := hJ
    have d26 := hd.get 26 (by rfl)
    have d27 := hd.get 27 (by rfl)
    have HJ := Lib.hid (And.intro hP0 (hP1))
    clear hP0 hP1 hd hcl h0
    exact hK.out _ _ ⟨Q, dq, (by simp only [OG.upd, d26, d27, hg, cond_false, Bool.cond_self]; rfl), (HJ.out.1), (HJ.out.2)⟩
  · obtain ⟨Q, dq, rfl, hP0, hP1⟩ := hJ
    have d23 := hd.get 23 (by rfl)
    have d28 := hd.get 28 (by rfl)
    have HJ := Lib.hid (And.intro hP0 (hP1))
    clear hP0 hP1 hd hcl h0
    rcases Bool.eq_false_or_eq_true g4 with hg | hg
    · go_simp
      exact hK.out _ _ ⟨Q, dq, (by simp only [OG.upd, d23, d28, hg, cond_false, cond_true, Bool.cond_self]; rfl), (HJ.out.1), (HJ.out.2)⟩
    · have h2 := F5.out hg
      go_simp
      exact hK.out _ _ ⟨Q, dq, (by simp only [OG.upd, d23, d28, hg, h2, cond_false, cond_true, Bool.cond_self]; rfl), (HJ.out.1), (HJ.out.2)⟩
  · obtain ⟨Q, dq, rfl, hP0, hP1⟩ := hJ
    have d29 := hd.get 29 (by rfl)
    have HJ := Lib.hid (And.intro hP0 (hP1))
    clear hP0 hP1 hd hcl h0
    go_simp
    exact hK.out _ _ ⟨Q, dq, (by simp only [OG.upd, d29]; rfl), (HJ.out.1), (HJ.out.2)⟩
  · obtain ⟨Q, dq, rfl, hP0, hP1⟩ := hJ
    have HJ := Lib.hid (And.intro hP0 (hP1))
    clear hP0 hP1 hd hcl h0
    go_simp
    exact hK.out _ _ ⟨Q, dq, (by simp only [OG.upd, hg]; rfl), (HJ.out.1), (HJ.out.2)⟩
  · obtain ⟨Q, dq, rfl, hP0, hP1⟩ := hJ
    have HJ := Lib.hid (And.intro hP0 (hP1))
    clear hP0 hP1 hd hcl h0
    exact hK.out _ _ ⟨Q, dq, (by simp only [OG.upd, hg, cond_false, Bool.cond_self]; rfl), (HJ.out.1), (HJ.out.2)⟩
  · obtain ⟨Q, dq, rfl, hP0, hP1⟩ := hJ
    have d31 := hd.get 31 (by rfl)
    have HJ := Lib.hid (And.intro hP0 (hP1))
    clear hP0 hP1 hd hcl h0
    have hx := (NB.out.below HJ.out.1 NB.out.lt).cell
    go_simp
    exact hK.out _ _ ⟨Q, dq, (by simp only [OG.upd, d31, hg]; rfl), (HJ.out.1), (HJ.out.2)⟩
  · obtain ⟨Q, dq, rfl, hP0, hP1⟩ := hJ
    have d31 := hd.get 31 (by rfl)
    have HJ := Lib.hid (And.intro hP0 (hP1))
    clear hP0 hP1 hd hcl h0
    exact hK.out _ _ ⟨Q, dq, (by simp only [OG.upd, d31, hg, cond_false, Bool.cond_self]; rfl), (HJ.out.1), (HJ.out.2)⟩
  · obtain ⟨Q, dq, rfl, hP0, hP1⟩ := hJ
    have HJ := Lib.hid (And.intro hP0 (hP1))
    clear hP0 hP1 hd hcl h0
    go_simp
    exact hK.out _ _ ⟨Q, dq, (by simp only [OG.upd, hg]; rfl), (HJ.out.1), (HJ.out.2)⟩
  · obtain ⟨Q, dq, rfl, hP0, hP1⟩ := hJ
    have HJ := Lib.hid (And.intro hP0 (hP1))
    clear hP0 hP1 hd hcl h0
    exact hK.out _ _ ⟨Q, dq, (by simp only [OG.upd, hg, cond_false, Bool.cond_self]; rfl), (HJ.out.1), (HJ.out.2)⟩
  · obtain ⟨Q, dq, rfl, hP0, hP1⟩ := hJ
    have d33 := hd.get 33 (by rfl)
    have HJ := Lib.hid (And.intro hP0 (hP1))
    clear hP0 hP1 hd hcl h0
    have hx := (NB.out.below HJ.out.1 NB.out.lt).cell
    go_simp
    exact hK.out _ _ ⟨Q, dq, (by simp only [OG.upd, d33, hg]; rfl), (HJ.out.1), (HJ.out.2)⟩
  · obtain ⟨Q, dq, rfl, hP0, hP1⟩ := hJ
    have d33 := hd.get 33 (by rfl)
    have HJ := Lib.hid (And.intro hP0 (hP1))
    clear hP0 hP1 hd hcl h0
    exact hK.out _ _ ⟨Q, dq, (by simp only [OG.upd, d33, hg, cond_false, Bool.cond_self]; rfl), (HJ.out.1), (HJ.out.2)⟩
  · obtain ⟨Q, dq, rfl, hP0, hP1⟩ := hJ
    have d34 := hd.get 34 (by rfl)
    have f36 := hcl.off 36 35 (by rfl) h0
    have HJ := Lib.hid (And.intro hP0 (hP1))
    clear hP0 hP1 hd hcl h0
    go_simp
    refine (T77.out hg _ HJ.out.1).mono ?_
    rintro e w' ⟨Q', Yb, rfl, hq, hb⟩
    exact hK.out _ _ ⟨Q', Yb, (by simp only [OG.upd, d34, f36, hg]; rfl), (HJ.out.1.trans (hb.mono HJ.out.1.size)), (fun _ _ => hq)⟩
  · obtain ⟨Q, dq, rfl, hP0, hP1⟩ := hJ
    have d34 := hd.get 34 (by rfl)
    have f36 := hcl.off 36 35 (by rfl) h0
    have HJ := Lib.hid (And.intro hP0 (hP1))
    clear hP0 hP1 hd hcl h0
    exact hK.out _ _ ⟨Q, dq, (by simp only [OG.upd, d34, f36, hg, cond_false, Bool.cond_self]; rfl), (HJ.out.1), (fun _ h => by rw [hg] at h; cases h)⟩
  · obtain ⟨Q, dq, rfl, hP0, hP1⟩ := hJ
    have d32 := hd.get 32 (by rfl)
    have d35 := hd.get 35 (by rfl)
    have HJ := Lib.hid (And.intro hP0 (hP1))
    clear hP0 hP1 hd hcl h0
    have hq := HJ.out.2 d35 hg
    go_simp
    refine (T76.out hg _ Q dq HJ.out.1 hq.1 hq.2).mono ?_
    rintro e w' ⟨rfl, hb⟩
    exact hK.out _ _ ⟨Q, dq, (by simp only [OG.upd, d32, d35, hg]; rfl), (HJ.out.1.trans (hb.mono HJ.out.1.size)), (fun h hg => ⟨(HJ.out.2 h hg).1.below hb, (HJ.out.2 h hg).2⟩)⟩
  · obtain ⟨Q, dq, rfl, hP0, hP1⟩ := hJ
    have d32 := hd.get 32 (by rfl)
    have d35 := hd.get 35 (by rfl)
    have HJ := Lib.hid (And.intro hP0 (hP1))
    clear hP0 hP1 hd hcl h0
    exact hK.out _ _ ⟨Q, dq, (by simp only [OG.upd, d32, d35, hg, cond_false, Bool.cond_self]; rfl), (HJ.out.1), (HJ.out.2)⟩
  · obtain ⟨Q, dq, rfl, hP0, hP1⟩ := hJ
    have d36 := hd.get 36 (by rfl)
    have HJ := Lib.hid (And.intro hP0 (hP1))
    clear hP0 hP1 hd hcl h0
    go_simp
    exact hK.out _ _ ⟨Q, dq, (by simp only [OG.upd, d36, hg]; rfl), (HJ.out.1), (HJ.out.2)⟩
  · obtain ⟨Q, dq, rfl, hP0, hP1⟩ := hJ
    have d36 := hd.get 36 (by rfl)
    have HJ := Lib.hid (And.intro hP0 (hP1))
    clear hP0 hP1 hd hcl h0
    exact hK.out _ _ ⟨Q, dq, (by simp only [OG.upd, d36, hg, cond_false, Bool.cond_self]; rfl), (HJ.out.1), (HJ.out.2)⟩
  · obtain ⟨Q, dq, rfl, hP0, hP1⟩ := hJ
    have d30 := hd.get 30 (by rfl)
    have d37 := hd.get 37 (by rfl)
    have HJ := Lib.hid (And.intro hP0 (hP1))
    clear hP0 hP1 hd hcl h0
    rcases Bool.eq_false_or_eq_true g5 with hg | hg
    · go_simp
      exact hK.out _ _ ⟨Q, dq, (by simp only [OG.upd, d30, d37, hg, cond_false, cond_true, Bool.cond_self]; rfl), (HJ.out.1), (HJ.out.2)⟩
    · have h2 := F6.out hg
      go_simp
      exact hK.out _ _ ⟨Q, dq, (by simp only [OG.upd, d30, d37, hg, h2, cond_false, cond_true, Bool.cond_self]; rfl), (HJ.out.1), (HJ.out.2)⟩
 case se =>
  intro l0 a w hJ he
  obtain ⟨Q, dq, rfl, hP0, hP1⟩ := hJ
  rw [he 0 (by decide), he 1 (by decide), he 2 (by decide), he 3 (by decide), he 4 (by decide), he 5 (by decide), he 6 (by decide), he 7 (by decide), he 8 (by decide), he 9 (by decide), he 10 (by decide), he 11 (by decide), he 12 (by decide), he 13 (by decide), he 14 (by decide), he 15 (by decide), he 16 (by decide), he 17 (by decide), he 18 (by decide), he 19 (by decide), he 20 (by decide), he 21 (by decide), he 22 (by decide), he 23 (by decide), he 24 (by decide), he 25 (by decide), he 26 (by decide), he 27 (by decide), he 28 (by decide), he 29 (by decide), he 30 (by decide), he 31 (by decide), he 32 (by decide), he 33 (by decide), he 34 (by decide), he 35 (by decide), he 36 (by decide), he 37 (by decide), he 38 (by decide)]
  have BE := Lib.hid (B0.out.trans (hP0.mono B0.out.size))
  have RX := Lib.hid (NB.out.below hP0 NB.out.lt)
  have RB := Lib.hid (HB.out.below (B0.out.trans (hP0.mono B0.out.size)))
  clear hP0 hP1 he NB B0 hx Ru Rt T77 T76 E3 E4 E5 F2 F3 F4 F5 F6 G5 SH G6 HB HA KB
  simp only [cond_true]
  cases g6
  case false =>
   have HN := Lib.hid (GF.out rfl)
   go_wp2
   go_ret
   rw [decide_eq_false HN.out]
   exact ⟨rfl, BE.out⟩
  case true =>
  obtain ⟨n, e1, e2, e3, e4, h8, hl, htr⟩ := G7.out rfl
  have LN : Hid (l.length = n * n ∧ n ≤ 8) := Lib.hid ⟨hl, h8⟩
  have TP := Lib.hid htr
  clear hl h8 htr GF G7
  subst e1 e2 e3 e4
  simp only [Bool.not_true]
  have x0 := RX.out.cell
  go_wp2_with fail
  go_loop [48] (fun u => ∃ k : Nat, (k ≤ n ∧ ∀ i, i < k → 0 ≤ l.getD (i * n + i) 0) ∧ u = .int .i64 k) (fun u => n - (intOf u).toNat)
  case atStart => exact ⟨0, ⟨Nat.zero_le _, fun i hi => by omega⟩, rfl⟩
  case round =>
   obtain ⟨k, ⟨hk, hd⟩, rfl⟩ := hrel
   have HD := Lib.hid hd
   clear hd
   by_cases hlt : k < n
   · have hln := LN.out
     have n64 := UF hln.2
     have hlk := jR hlt hlt
     obtain ⟨b, off, hBe, _, hcells⟩ := RB.out.cells (by omega)
     subst hBe
     have c1 := hcells (k * n + k) _ (dZ (by omega))
     obtain ⟨q, hq⟩ : ∃ q, l.getD (k * n + k) 0 = q := ⟨_, rfl⟩
     rw [hq] at c1
     have HQ := Lib.hid hq
     obtain ⟨p, hp⟩ : ∃ p : Nat, k * n = p := ⟨_, rfl⟩
     have hp2 : (k : Int) * (n : Int) = (p : Int) := by rw [← hp]; push_cast; rfl
     rw [hp] at c1 hlk
     have hw1 : IntKind.i64.wrap ((k : Int) * (n : Int)) = (p : Int) := by rw [hp2]; simp [IntKind.wrap, IntKind.bits, IntKind.signed]; omega
     have hw2 : IntKind.i64.wrap ((p : Int) + (k : Int)) = ((p + k : Nat) : Int) := by simp [IntKind.wrap, IntKind.bits, IntKind.signed]; omega
     obtain ⟨j, hj⟩ : ∃ j : Nat, p + k = j := ⟨_, rfl⟩
     rw [hj] at c1 hlk hw2
     have hj0 : (0 : Int) ≤ (j : Int) := by omega
     have hj1 : (j : Int) < l.length := by omega
     have hk8 : k + 1 ≤ 8 := by omega
     have HK : Hid (k + 1 ≤ n ∧ n ≤ 8) := Lib.hid ⟨by omega, by omega⟩
     by_cases hq0 : q < 0
     · have e1 : decide (q < 0) = true := decide_eq_true hq0
       have HN : Hid (¬ gJ n 1 x n n l) := Lib.hid (fun h => by
        have h2 := TP.out.1 h k hlt (Nat.zero_le _)
        have h3 := HQ.out
        omega)
       clear hq hp hp2 hj hln n64 hlk hcells LN hq0
       go_wp2
       go_ret
       rw [decide_eq_false HN.out]
       exact ⟨rfl, BE.out⟩
     · have e1 : decide (q < 0) = false := decide_eq_false hq0
       have HD2 : Hid (∀ i, i < k + 1 → 0 ≤ l.getD (i * n + i) 0) := Lib.hid (fun i hi => by
        obtain rfl | h : i = k ∨ i < k := by omega
        · have := HQ.out
          omega
        · exact HD.out i h)
       clear hq hp hp2 hj hln n64 hlk hcells LN hq0 HD
       go_wp2
       go_round
       case rel => exact ⟨k + 1, ⟨HK.out.1, HD2.out⟩, by go_num⟩
       case measure => simp [intOf]; omega
   · have ht : gJ n 1 x n n l := TP.out.2 (fun i hi _ => HD.out i (by omega))
     have HT := Lib.hid ht
     clear ht
     go_wp2
     go_ret
     rw [decide_eq_true HT.out]
     exact ⟨rfl, BE.out⟩
end Go.Proofs.Ytnijhjbcjeohhaa.PR

namespace Go.Proofs.Ytnijhjbcjeohhaa.EE
open Go.RowKit Go.Proofs.Ytnijhjbcjeohhaa.KK Go.Proofs.af.aF Go.Proofs.af.aP Go.Proofs.af.aQ
set_option linter.unusedVariables false
set_option linter.unusedSimpArgs false
def Eg.pW (e : Eg) : Array Value := #[I e.t0.r, I e.t0.c, .slice e.t0.A e.t0.x.length e.t0.cx, I e.t0.r', I e.t0.c', .slice e.t0.B e.t0.p.length e.t0.cp,
    I e.t1.r, I e.t1.c, .slice e.t1.A e.t1.x.length e.t1.cx, I e.t1.r', I e.t1.c', .slice e.t1.B e.t1.p.length e.t1.cp,
    I e.t2.r, I e.t2.c, .slice e.t2.A e.t2.x.length e.t2.cx, I e.t2.r', I e.t2.c', .slice e.t2.B e.t2.p.length e.t2.cp]
def Eg.rest (e : Eg) : Bool := PQ.iG (PQ.at4 e.q0 e.q1 e.q2 e.q3) 4 && decide (0 ≤ e.steps) && decide (e.steps ≤ 1099511627776) && !eu e.dP && !([e.f0, e.f1, e.f2, e.f3].any eu)
theorem Eg.Jm (e : Eg) (h0 : e.t0.ok = true) (h1 : e.t1.ok = true) (h2 : e.t2.ok = true) : e.ok = e.rest := by
 unfold Eg.ok Eg.rest Eg.t3 Eg.n0 Eg.o4
 rw [h0, h1, h2]
 have a1 : decide (e.steps < 0) = !decide (0 ≤ e.steps) := by by_cases h : 0 ≤ e.steps <;> simp [h] <;> omega
 have a2 : decide (e.steps > 1099511627776) = !decide (e.steps ≤ 1099511627776) := by by_cases h : e.steps ≤ 1099511627776 <;> simp [h] <;> omega
 have a3 : eu e.dP = (decide (e.dP < 0) || decide (e.dP > 1000)) := rfl
 rw [a1, a2, a3]
 simp only [List.any_cons, List.any_nil]
 generalize eu e.f0 = a, eu e.f1 = b, eu e.f2 = c, eu e.f3 = d, decide (0 ≤ e.steps) = s, decide (e.steps ≤ 1099511627776) = t, decide (e.dP < 0) = u, decide (e.dP > 1000) = v, PQ.iG (PQ.at4 e.q0 e.q1 e.q2 e.q3) 4 = r
 revert a b c d s t u v r
 decide
theorem Eg.sG (e : Eg) (k : Nat) (hk : k < 3) (h : (e.t k).ok = false) : e.ok = false := by
 have : e.t3 = false := by
  obtain rfl | rfl | rfl : k = 0 ∨ k = 1 ∨ k = 2 := by omega
  · show (e.t0.ok && _) = false
    rw [show e.t0.ok = false from h]
    rfl
  · show (e.t0.ok && (e.t1.ok && _)) = false
    rw [show e.t1.ok = false from h]
    simp
  · show (e.t0.ok && (e.t1.ok && e.t2.ok)) = false
    rw [show e.t2.ok = false from h]
    simp
 unfold Eg.ok
 rw [this]
 simp
theorem oP (e : Eg) (w : World) (hr : ∀ j, j < 3 → I9 w (e.t j)) :
 Calls Try.prog 20 #[.agg e.R] w fun x w' => x = .returned (.bool e.ok) ∧ Below w.heap.size w w' := by
 have HK : Hid (∀ j, j < 3 → ∀ w', Below w.heap.size w w' → Calls Try.prog 45 #[.agg (e.t j).row] w' fun x w'' => x = .returned (.bool (decide (PR.gJ (e.t j).r (e.t j).c (e.t j).x (e.t j).r' (e.t j).c' (e.t j).p))) ∧ Below w'.heap.size w' w'') := Lib.hid (fun j hj w' hb =>
  PR.vI (e.t j).r (e.t j).c (e.t j).A (e.t j).cx (e.t j).x (e.t j).r' (e.t j).c' (e.t j).B (e.t j).cp (e.t j).p w' ((hr j hj).x.below hb) ((hr j hj).p.below hb) (hr j hj).pd)
 have L : Hid (aV w [(37, e.R)] (w.alloc (.cells e.R 37))) := Lib.hid ((aV.none w).push (by simp) _ _)
 clear hr
 go_enter Try.func20, Try.ntmps20
 go_upto_region 1 with fail
 generalize (w.alloc (.cells e.R 37)) = w1 at L ⊢
 have RA := Lib.hid (Row.range L.out.r0 4 e.pW.toList (by kernel_rfl))
 have i34 := Lib.hid (show (Try.prog.info? 34).map (·.size) = some e.pW.toList.length by kernel_rfl)
 go_wp2_with (with_reducible refine wpList_load_mid rfl 34 (.tmp 6) rfl w.heap.size 4 rfl e.pW.toList _ RA.out Try.underlying34 rfl i34.out ?_)
 clear RA i34
 have IX : Hid ((∀ w', (Instr.index 34 (.agg e.pW) (.int .i64 0)).run Try.prog w' = .ok (.agg e.t0.row) w') ∧ (∀ w', (Instr.index 34 (.agg e.pW) (.int .i64 1)).run Try.prog w' = .ok (.agg e.t1.row) w') ∧ (∀ w', (Instr.index 34 (.agg e.pW) (.int .i64 2)).run Try.prog w' = .ok (.agg e.t2.row) w')) := Lib.hid ⟨fun w' => by kernel_rfl, fun w' => by kernel_rfl, fun w' => by kernel_rfl⟩
 go_loopw [8] (fun i wl => ∃ k : Nat, k ≤ 3 ∧ i = .int .i64 k ∧ Hid (aV w [(37, e.R)] wl) ∧ Hid (∀ j, j < k → (e.t j).ok = true)) (fun i _ => 3 - (intOf i).toNat)
 case atStart => exact ⟨0, by omega, rfl, L, Lib.hid (fun j hj => by omega)⟩
 case round =>
  clear L
  obtain ⟨k, hk, rfl, L, I_⟩ := hrel
  obtain rfl | rfl | rfl | rfl : k = 3 ∨ k = 0 ∨ k = 1 ∨ k = 2 := by omega
  · have RS := Lib.hid (e.Jm (I_.out 0 (by decide)) (I_.out 1 (by decide)) (I_.out 2 (by decide)))
    clear I_
    have hc : ∀ i, wr.cell? ⟨w.heap.size, i, none⟩ = e.row[i]? := L.out.r0.cell
    go_wp2_with fail
    refine (PQ.ig e.q0 e.q1 e.q2 e.q3 _).mono ?_
    rintro x w5 ⟨rfl, hb⟩
    have L5 := Lib.hid (L.out.below hb)
    clear hb hc L HK IX
    have hc : ∀ i, w5.cell? ⟨w.heap.size, i, none⟩ = e.row[i]? := L5.out.r0.cell
    cases h1 : PQ.iG (PQ.at4 e.q0 e.q1 e.q2 e.q3) 4
    · go_wp2
      go_ret
      exact ⟨by rw [RS.out]; simp [Eg.rest, h1], L5.out.be⟩
    cases h2 : decide (e.steps ≥ 0)
    · go_wp2
      go_ret
      exact ⟨by rw [RS.out]; simp only [Eg.rest, h1, show decide (0 ≤ e.steps) = false from h2]; rfl, L5.out.be⟩
    cases h3 : decide (e.steps ≤ 1099511627776)
    · go_wp2
      go_ret
      exact ⟨by rw [RS.out]; simp only [Eg.rest, h1, h3, show decide (0 ≤ e.steps) = true from h2]; rfl, L5.out.be⟩
    go_wp2_with fail
    refine (qE e.dP _).mono ?_
    rintro x w6 ⟨rfl, hb⟩
    have L6 := Lib.hid (L5.out.below hb)
    clear hb hc L5
    have hc : ∀ i, w6.cell? ⟨w.heap.size, i, none⟩ = e.row[i]? := L6.out.r0.cell
    cases h4 : eu e.dP
    case true =>
     go_wp2
     go_ret
     exact ⟨by rw [RS.out]; simp only [Eg.rest, h1, h3, h4, show decide (0 ≤ e.steps) = true from h2]; rfl, L6.out.be⟩
    go_wp2_with fail
    refine (qm (some ⟨w.heap.size, 24, none⟩) 4 [e.f0, e.f1, e.f2, e.f3] w6 (Rd.part L6.out.r0 (by simp) (fun j x hx => ?_)) (by simp)).mono ?_
    · match j, hx with
      | 0, hx => injection hx with hx; subst hx; rfl
      | 1, hx => injection hx with hx; subst hx; rfl
      | 2, hx => injection hx with hx; subst hx; rfl
      | 3, hx => injection hx with hx; subst hx; rfl
      | j + 4, hx => simp at hx
    rintro x w7 ⟨rfl, hb⟩
    have L7 := Lib.hid (L6.out.below hb)
    clear hb hc L6
    go_wp2
    go_ret
    have hE : (!eu e.f0 && (!eu e.f1 && (!eu e.f2 && !eu e.f3))) = !([e.f0, e.f1, e.f2, e.f3].any eu) := by
     simp only [List.any_cons, List.any_nil]
     generalize eu e.f0 = a, eu e.f1 = b, eu e.f2 = c, eu e.f3 = d
     revert a b c d
     decide
    have hR : e.rest = (!eu e.f0 && (!eu e.f1 && (!eu e.f2 && !eu e.f3))) := by
     rw [hE]
     simp only [Eg.rest, h1, h3, h4, show decide (0 ≤ e.steps) = true from h2]
     rfl
    exact ⟨by rw [RS.out, hR]; rfl, L7.out.be⟩
  · have ix := IX.out.1
    have z0 := L.out.r0.lt
    go_wp2_with fail
    refine (HK.out 0 (by decide) _ (L.out.alloc _).be).mono ?_
    rintro x w5 ⟨rfl, hb⟩
    have L5 := Lib.hid ((L.out.alloc _).below hb)
    have R5 := Lib.hid (Row.below (Row.new wr 33 e.t0.row) hb (Row.new wr 33 e.t0.row).lt)
    clear hb L
    have c5 : w5.cell? ⟨wr.heap.size, 0, none⟩ = some (I e.t0.r) := R5.out.cell 0
    have OK : Hid ((e.t 0).ok = (decide (PR.gJ (e.t 0).r (e.t 0).c (e.t 0).x (e.t 0).r' (e.t 0).c' (e.t 0).p) && decide (e.t0.r = 3))) := Lib.hid rfl
    generalize decide (PR.gJ (e.t 0).r (e.t 0).c (e.t 0).x (e.t 0).r' (e.t 0).c' (e.t 0).p) = tp at OK ⊢
    cases tp
    case false =>
     have NO : Hid (e.ok = false) := Lib.hid (e.sG 0 (by decide) (by rw [OK.out]; rfl))
     go_wp2
     exact bodyPost_ret (results_tmp rfl _ _ _) rfl ⟨by rw [NO.out]; rfl, L5.out.be⟩
    by_cases h3 : e.t0.r = 3
    case neg =>
     have NO : Hid (e.ok = false) := Lib.hid (e.sG 0 (by decide) (by rw [OK.out, decide_eq_false h3]; rfl))
     have d3 : (e.t0.r != 3) = true := by rw [bne_iff_ne]; exact h3
     clear h3
     go_wp2
     exact bodyPost_ret (results_tmp rfl _ _ _) rfl ⟨by rw [NO.out]; rfl, L5.out.be⟩
    have LU : Hid (∀ j, j < 0 + 1 → (e.t j).ok = true) := Lib.hid (fun j hj => by
     obtain rfl | h : j = 0 ∨ j < 0 := by omega
     · rw [OK.out, h3]; rfl
     · exact I_.out j h)
    have d3 : (e.t0.r != 3) = false := by rw [h3]; rfl
    clear h3 OK I_
    go_wp2
    go_roundw
    case rel => exact ⟨0 + 1, by omega, by go_num, L5, LU⟩
    case measure => simp [intOf]
  · have ix := IX.out.2.1
    have z0 := L.out.r0.lt
    go_wp2_with fail
    refine (HK.out 1 (by decide) _ (L.out.alloc _).be).mono ?_
    rintro x w5 ⟨rfl, hb⟩
    have L5 := Lib.hid ((L.out.alloc _).below hb)
    have R5 := Lib.hid (Row.below (Row.new wr 33 e.t1.row) hb (Row.new wr 33 e.t1.row).lt)
    clear hb L
    have c5 : w5.cell? ⟨wr.heap.size, 0, none⟩ = some (I e.t1.r) := R5.out.cell 0
    have OK : Hid ((e.t 1).ok = (decide (PR.gJ (e.t 1).r (e.t 1).c (e.t 1).x (e.t 1).r' (e.t 1).c' (e.t 1).p) && decide (e.t1.r = 3))) := Lib.hid rfl
    generalize decide (PR.gJ (e.t 1).r (e.t 1).c (e.t 1).x (e.t 1).r' (e.t 1).c' (e.t 1).p) = tp at OK ⊢
    cases tp
    case false =>
     have NO : Hid (e.ok = false) := Lib.hid (e.sG 1 (by decide) (by rw [OK.out]; rfl))
     go_wp2
     exact bodyPost_ret (results_tmp rfl _ _ _) rfl ⟨by rw [NO.out]; rfl, L5.out.be⟩
    by_cases h3 : e.t1.r = 3
    case neg =>
     have NO : Hid (e.ok = false) := Lib.hid (e.sG 1 (by decide) (by rw [OK.out, decide_eq_false h3]; rfl))
     have d3 : (e.t1.r != 3) = true := by rw [bne_iff_ne]; exact h3
     clear h3
     go_wp2
     exact bodyPost_ret (results_tmp rfl _ _ _) rfl ⟨by rw [NO.out]; rfl, L5.out.be⟩
    have LU : Hid (∀ j, j < 1 + 1 → (e.t j).ok = true) := Lib.hid (fun j hj => by
     obtain rfl | h : j = 1 ∨ j < 1 := by omega
     · rw [OK.out, h3]; rfl
     · exact I_.out j h)
    have d3 : (e.t1.r != 3) = false := by rw [h3]; rfl
    clear h3 OK I_
    go_wp2
    go_roundw
    case rel => exact ⟨1 + 1, by omega, by go_num, L5, LU⟩
    case measure => simp [intOf]
  · have ix := IX.out.2.2
    have z0 := L.out.r0.lt
    go_wp2_with fail
    refine (HK.out 2 (by decide) _ (L.out.alloc _).be).mono ?_
    rintro x w5 ⟨rfl, hb⟩
    have L5 := Lib.hid ((L.out.alloc _).below hb)
    have R5 := Lib.hid (Row.below (Row.new wr 33 e.t2.row) hb (Row.new wr 33 e.t2.row).lt)
    clear hb L
    have c5 : w5.cell? ⟨wr.heap.size, 0, none⟩ = some (I e.t2.r) := R5.out.cell 0
    have OK : Hid ((e.t 2).ok = (decide (PR.gJ (e.t 2).r (e.t 2).c (e.t 2).x (e.t 2).r' (e.t 2).c' (e.t 2).p) && decide (e.t2.r = 3))) := Lib.hid rfl
    generalize decide (PR.gJ (e.t 2).r (e.t 2).c (e.t 2).x (e.t 2).r' (e.t 2).c' (e.t 2).p) = tp at OK ⊢
    cases tp
    case false =>
     have NO : Hid (e.ok = false) := Lib.hid (e.sG 2 (by decide) (by rw [OK.out]; rfl))
     go_wp2
     exact bodyPost_ret (results_tmp rfl _ _ _) rfl ⟨by rw [NO.out]; rfl, L5.out.be⟩
    by_cases h3 : e.t2.r = 3
    case neg =>
     have NO : Hid (e.ok = false) := Lib.hid (e.sG 2 (by decide) (by rw [OK.out, decide_eq_false h3]; rfl))
     have d3 : (e.t2.r != 3) = true := by rw [bne_iff_ne]; exact h3
     clear h3
     go_wp2
     exact bodyPost_ret (results_tmp rfl _ _ _) rfl ⟨by rw [NO.out]; rfl, L5.out.be⟩
    have LU : Hid (∀ j, j < 2 + 1 → (e.t j).ok = true) := Lib.hid (fun j hj => by
     obtain rfl | h : j = 2 ∨ j < 2 := by omega
     · rw [OK.out, h3]; rfl
     · exact I_.out j h)
    have d3 : (e.t2.r != 3) = false := by rw [h3]; rfl
    clear h3 OK I_
    go_wp2
    go_roundw
    case rel => exact ⟨2 + 1, by omega, by go_num, L5, LU⟩
    case measure => simp [intOf]
end Go.Proofs.Ytnijhjbcjeohhaa.EE

namespace Go.Proofs.Ytnijhjbcjeohhaa.EE
open Go.RowKit Go.Proofs.Ytnijhjbcjeohhaa.KK Go.Proofs.af.aF Go.Proofs.af.aP Go.Proofs.af.aQ
set_option linter.unusedVariables false
set_option linter.unusedSimpArgs false
theorem MO {w : World} {B : Nat} {t : TypeId} {C : Array Value} (R : Row w B t C) (o : Nat) (vs : List Value) (D : Array Value) (h : qw C.toList o vs = D.toList) : Row (w.setCells B o vs) B t D := by
 obtain ⟨arr, h1, h2⟩ := KK.Row.setCells vs o w C R
 rw [h] at h2
 have : arr = D := Array.toList_inj.mp h2
 rwa [this] at h1
structure Sq (l : List Int) (A : Option Addr) (c : Nat) (w0 W : World) (k : Nat) (cs : Array Value) : Prop where
 at_ : Row W (w0.heap.size + 2) 3 #[I (k : Int)]
 sl : Row W w0.heap.size 52 #[.slice A l.length c]
 e : Row W (w0.heap.size + 3) 37 cs
 z : Row W (w0.heap.size + 1) 37 zE
 be : Below w0.heap.size w0 W
def Far (b : Nat) (W W' : World) : Prop := W'.heap.size ≥ W.heap.size ∧ ∀ g, g ≠ b → g < W.heap.size → W'.heap[g]? = W.heap[g]?
theorem Far.row {b : Nat} {W W' : World} (h : Far b W W') {g : Nat} {t : TypeId} {cs : Array Value} (hg : g ≠ b) (R : Row W g t cs) : Row W' g t cs := (h.2 g hg R.lt).trans R
theorem BM {l : List Int} {A : Option Addr} {c : Nat} {w0 W : World} {k : Nat} {cs : Array Value} (S : Sq l A c w0 W k cs) (hl : Rd w0 A l) {v : Int} (hv : l[k]? = some v) (h38 : l.length ≤ 100) :
 Calls Try.prog 44 #[.pointer (some ⟨w0.heap.size + 2, 0, none⟩), .pointer (some ⟨w0.heap.size, 0, none⟩)] W fun x W' => x = .returned (I v) ∧ Sq l A c w0 W' (k + 1) cs ∧ Far (w0.heap.size + 2) W W' := by
 have hk := (List.getElem?_eq_some_iff.1 hv).1
 obtain ⟨b, off, rfl, hb, hcells⟩ := (hl.below S.be).cells (by omega)
 have hc := hcells k v hv
 have c0 := S.at_.cell 0
 have f0 := S.at_.free 0
 have c1 := S.sl.cell 0
 have HS := Lib.hid S
 have hne : b ≠ w0.heap.size + 2 := by
  have h1 := PR.Rd.blk hl _ rfl (by omega)
  have h2 : b < w0.heap.size := h1
  omega
 have hw : IntKind.i64.wrap ((k : Int) + 1) = ((k + 1 : Nat) : Int) := by rw [IntWalk.i64_in _ (by omega)]; omega
 have hs : IntKind.i64.wrap ((k : Int) + 1 - 1) = (k : Int) := by rw [IntWalk.i64_in _ (by omega)]; omega
 have hs2 : IntKind.i64.wrap (k : Int) = (k : Int) := IntWalk.i64_in _ (by omega)
 have g0 : (0 : Int) ≤ (k : Int) := by omega
 have g1 : (k : Int) < (l.length : Int) := by omega
 clear hcells S hb
 go_enter Try.func44, Try.ntmps44
 go_wp2
 refine bodyPost_ret (results_tmp rfl _ _ _) rfl ⟨rfl, ⟨Row.put HS.out.at_ 0 _ _ rfl, Row.far HS.out.sl (show w0.heap.size ≠ w0.heap.size + 2 by omega) _, Row.far HS.out.e (show w0.heap.size + 3 ≠ w0.heap.size + 2 by omega) _, Row.far HS.out.z (show w0.heap.size + 1 ≠ w0.heap.size + 2 by omega) _, HS.out.be.setCell (p := ⟨w0.heap.size + 2, 0, none⟩) (show w0.heap.size ≤ w0.heap.size + 2 by omega) _⟩, ?_⟩
 exact ⟨(bn (dH W (some (w0.heap.size + 2))) 0 _).size, fun g hg _ => Below.heap_setCell W ⟨w0.heap.size + 2, 0, none⟩ _ g hg⟩
section
variable {l : List Int} {A : Option Addr} {c : Nat} {w0 W W' : World} {k : Nat} {cs : Array Value}
theorem Sq.alloc (S : Sq l A c w0 W k cs) (o : Obj) : Sq l A c w0 (W.alloc o) k cs := ⟨S.at_.alloc o, S.sl.alloc o, S.e.alloc o, S.z.alloc o, S.be.alloc S.be.size o⟩
theorem Sq.set (S : Sq l A c w0 W k cs) (i : Nat) (u : Value) : Sq l A c w0 (W.setCell ⟨w0.heap.size + 3, i, none⟩ u) k (cs.setIfInBounds i u) :=
 ⟨Row.far S.at_ (show w0.heap.size + 2 ≠ w0.heap.size + 3 by omega) _, Row.far S.sl (show w0.heap.size ≠ w0.heap.size + 3 by omega) _, Row.set S.e i u, Row.far S.z (show w0.heap.size + 1 ≠ w0.heap.size + 3 by omega) _, S.be.setCell (p := ⟨w0.heap.size + 3, i, none⟩) (show w0.heap.size ≤ w0.heap.size + 3 by omega) _⟩
theorem Sq.cells (S : Sq l A c w0 W k cs) (o : Nat) (vs : List Value) (D : Array Value) (h : qw cs.toList o vs = D.toList) : Sq l A c w0 (W.setCells (w0.heap.size + 3) o vs) k D :=
 ⟨(OG.gq vs o W _ (by omega)).trans S.at_, (OG.gq vs o W _ (by omega)).trans S.sl, MO S.e o vs D h, (OG.gq vs o W _ (by omega)).trans S.z, KK.b_ _ _ _ S.be (by omega)⟩
end
end Go.Proofs.Ytnijhjbcjeohhaa.EE

namespace Go.Proofs.Ytnijhjbcjeohhaa.EE
open Go.RowKit Go.Proofs.Ytnijhjbcjeohhaa.KK Go.Proofs.af.aF Go.Proofs.af.aP Go.Proofs.af.aQ
set_option linter.unusedVariables false
set_option linter.unusedSimpArgs false
def Po (l : List Int) : Nat → Array Value
 | 0 => zE
 | k + 1 => (Po l k).setIfInBounds k (I (l.getD k 0))
theorem vN (l : List Int) : ∀ k, (Po l k).size = 29
 | 0 => rfl
 | k + 1 => by rw [Po, Array.size_setIfInBounds, vN l k]
def nP (l : List Int) (j : Nat) (x : Nat × Nat) : Tg := ⟨3, 1, some ⟨x.1, 0, none⟩, 3, [l.getD (4 + 9 * j) 0, l.getD (4 + 9 * j + 1) 0, l.getD (4 + 9 * j + 2) 0], 3, 3, some ⟨x.2, 0, none⟩, 9,
 [l.getD (4 + 9 * j + 3) 0, l.getD (4 + 9 * j + 4) 0, l.getD (4 + 9 * j + 5) 0, l.getD (4 + 9 * j + 4) 0, l.getD (4 + 9 * j + 6) 0, l.getD (4 + 9 * j + 7) 0, l.getD (4 + 9 * j + 5) 0, l.getD (4 + 9 * j + 7) 0, l.getD (4 + 9 * j + 8) 0]⟩
theorem Qd {α : Type} {l : List α} (h : l.length = 3) : ∃ a b c, l = [a, b, c] := by
 match l, h with
 | [a, b, c], _ => exact ⟨a, b, c, rfl⟩
theorem Gq {w : World} {b : Nat} {t : TypeId} {C : Array Value} (h : Row w b t C) (o n : Nat) (hn : o + n ≤ C.size) : w.there b o n := fun j hj => by
 refine ⟨?_, h.free _⟩
 rw [h.cell]
 simp
 omega
def Yn (l : List Int) (j : Nat) (t : Tg) : Prop := t.r = 3 ∧ t.c = 1 ∧ t.x = [l.getD (4 + 9 * j) 0, l.getD (4 + 9 * j + 1) 0, l.getD (4 + 9 * j + 2) 0] ∧ t.r' = 3 ∧ t.c' = 3 ∧
 t.p = [l.getD (4 + 9 * j + 3) 0, l.getD (4 + 9 * j + 4) 0, l.getD (4 + 9 * j + 5) 0, l.getD (4 + 9 * j + 4) 0, l.getD (4 + 9 * j + 6) 0, l.getD (4 + 9 * j + 7) 0, l.getD (4 + 9 * j + 5) 0, l.getD (4 + 9 * j + 7) 0, l.getD (4 + 9 * j + 8) 0]
def r3 (l : List Int) (j : Nat) : Array Value := #[I (l.getD (4 + 9 * j) 0), I (l.getD (4 + 9 * j + 1) 0), I (l.getD (4 + 9 * j + 2) 0)]
def r9 (l : List Int) (j : Nat) : Array Value := #[I (l.getD (4 + 9 * j + 3) 0), I (l.getD (4 + 9 * j + 4) 0), I (l.getD (4 + 9 * j + 5) 0), I (l.getD (4 + 9 * j + 4) 0), I (l.getD (4 + 9 * j + 6) 0), I (l.getD (4 + 9 * j + 7) 0), I (l.getD (4 + 9 * j + 5) 0), I (l.getD (4 + 9 * j + 7) 0), I (l.getD (4 + 9 * j + 8) 0)]
def Pz (x : Nat × Nat) : Array Value := #[.int .i64 3, .int .i64 1, .slice (some ⟨x.1, 0, none⟩) 3 3, .int .i64 3, .int .i64 3, .slice (some ⟨x.2, 0, none⟩) 9 9]
def I7 (l : List Int) (ax : List (Nat × Nat)) : Array Value := ax.zipIdx.foldl (fun a x => (qw a.toList (4 + x.2 * 6) (Pz x.1).toList).toArray) (Po l 4)
theorem Jn (l : List Int) (ax : List (Nat × Nat)) (x : Nat × Nat) : I7 l (ax ++ [x]) = (qw (I7 l ax).toList (4 + ax.length * 6) (Pz x).toList).toArray := by
 simp [I7, List.zipIdx_append, List.foldl_append]
def GM (l : List Int) (ax : List (Nat × Nat)) : Nat → Array Value
 | 0 => ((I7 l ax).setIfInBounds 22 (I (l.getD 31 0))).setIfInBounds 23 (I (l.getD 32 0))
 | k + 1 => (GM l ax k).setIfInBounds (24 + k) (I (l.getD (33 + k) 0))
theorem zk : ∀ (vs : List Value) (l : List Value) (o : Nat), (qw l o vs).length = l.length
 | [], l, o => rfl
 | v :: vs, l, o => by rw [qw, zk vs, List.length_set]
theorem Lm (l : List Int) : ∀ (xs : List ((Nat × Nat) × Nat)) (a : Array Value), a.size = 29 → (xs.foldl (fun a x => (qw a.toList (4 + x.2 * 6) (Pz x.1).toList).toArray) a).size = 29
 | [], a, h => h
 | x :: xs, a, h => Lm l xs _ (by rw [List.size_toArray, zk, Array.length_toList, h])
theorem vM (l : List Int) (ax : List (Nat × Nat)) : (I7 l ax).size = 29 := Lm l _ _ (vN l 4)
theorem vK (l : List Int) (ax : List (Nat × Nat)) : ∀ k, (GM l ax k).size = 29
 | 0 => by rw [GM, Array.size_setIfInBounds, Array.size_setIfInBounds, vM]
 | k + 1 => by rw [GM, Array.size_setIfInBounds, vK l ax k]
def Gh (l : List Int) (n : Nat) (W : World) (ax : List (Nat × Nat)) : Prop := ∀ j x, ax[j]? = some x → (n ≤ x.1 ∧ n ≤ x.2) ∧ Row W x.1 22 (r3 l j) ∧ Row W x.2 22 (r9 l j)
theorem Gh.keep {l : List Int} {n : Nat} {W W' : World} {ax : List (Nat × Nat)} (h : Gh l n W ax) (hk : ∀ g t cs, n ≤ g → Row W g t cs → Row W' g t cs) : Gh l n W' ax := fun j x hx =>
 ⟨(h j x hx).1, hk _ _ _ (h j x hx).1.1 (h j x hx).2.1, hk _ _ _ (h j x hx).1.2 (h j x hx).2.2⟩
theorem Gh.snoc {l : List Int} {n : Nat} {W : World} {ax : List (Nat × Nat)} (h : Gh l n W ax) {x : Nat × Nat} (h1 : n ≤ x.1 ∧ n ≤ x.2) (h2 : Row W x.1 22 (r3 l ax.length)) (h3 : Row W x.2 22 (r9 l ax.length)) : Gh l n W (ax ++ [x]) := fun j y hy => by
 rcases Nat.lt_trichotomy j ax.length with hj | hj | hj
 · rw [List.getElem?_append_left hj] at hy
   exact h j y hy
 · subst hj
   simp at hy
   subst hy
   exact ⟨h1, h2, h3⟩
 · rw [List.getElem?_eq_none (by simp; omega)] at hy
   cases hy
structure Gl (l : List Int) (e : Eg) : Prop where
 q0 : e.q0 = l.getD 0 0
 q1 : e.q1 = l.getD 1 0
 q2 : e.q2 = l.getD 2 0
 q3 : e.q3 = l.getD 3 0
 t0 : Yn l 0 e.t0
 t1 : Yn l 1 e.t1
 t2 : Yn l 2 e.t2
 st : e.steps = l.getD 31 0
 co : e.dP = l.getD 32 0
 f0 : e.f0 = l.getD 33 0
 f1 : e.f1 = l.getD 34 0
 f2 : e.f2 = l.getD 35 0
 f3 : e.f3 = l.getD 36 0
 sa : e.sat = (l.getD 37 0 == 1)
 len : l.length = 38
 last : l.getD 37 0 = 0 ∨ l.getD 37 0 = 1
theorem Gl.same {l : List Int} {a b : Eg} (h : Gl l a) (g : Gl l b) : a.ok = b.ok := by
 obtain ⟨t1, t2, t3, t4, t5, t6⟩ := h.t0
 obtain ⟨u1, u2, u3, u4, u5, u6⟩ := h.t1
 obtain ⟨v1, v2, v3, v4, v5, v6⟩ := h.t2
 obtain ⟨p1, p2, p3, p4, p5, p6⟩ := g.t0
 obtain ⟨q1, q2, q3, q4, q5, q6⟩ := g.t1
 obtain ⟨r1, r2, r3, r4, r5, r6⟩ := g.t2
 have e0 : a.t0.ok = b.t0.ok := by unfold Tg.ok; simp only [t1, t2, t3, t4, t5, t6, p1, p2, p3, p4, p5, p6]
 have e1 : a.t1.ok = b.t1.ok := by unfold Tg.ok; simp only [u1, u2, u3, u4, u5, u6, q1, q2, q3, q4, q5, q6]
 have e2 : a.t2.ok = b.t2.ok := by unfold Tg.ok; simp only [v1, v2, v3, v4, v5, v6, r1, r2, r3, r4, r5, r6]
 unfold Eg.ok Eg.n0 Eg.o4 Eg.t3
 rw [e0, e1, e2, h.q0, h.q1, h.q2, h.q3, h.st, h.co, h.f0, h.f1, h.f2, h.f3, g.q0, g.q1, g.q2, g.q3, g.st, g.co, g.f0, g.f1, g.f2, g.f3]
theorem P5 (l : List Int) (xa xb xc : Nat × Nat) (h : l.length = 38) (h1 : l.getD 37 0 = 0 ∨ l.getD 37 0 = 1) : Gl l ⟨l.getD 0 0, l.getD 1 0, l.getD 2 0, l.getD 3 0, nP l 0 xa, nP l 1 xb, nP l 2 xc, l.getD 31 0, l.getD 32 0, l.getD 33 0, l.getD 34 0, l.getD 35 0, l.getD 36 0, l.getD 37 0 == 1⟩ :=
 ⟨rfl, rfl, rfl, rfl, ⟨rfl, rfl, rfl, rfl, rfl, rfl⟩, ⟨rfl, rfl, rfl, rfl, rfl, rfl⟩, ⟨rfl, rfl, rfl, rfl, rfl, rfl⟩, rfl, rfl, rfl, rfl, rfl, rfl, rfl, h, h1⟩
theorem GI {l : List Int} {n : Nat} {W : World} {xa xb xc : Nat × Nat} (h : Gh l n W [xa, xb, xc]) : ∀ j, j < 3 → I9 W ((⟨l.getD 0 0, l.getD 1 0, l.getD 2 0, l.getD 3 0, nP l 0 xa, nP l 1 xb, nP l 2 xc, l.getD 31 0, l.getD 32 0, l.getD 33 0, l.getD 34 0, l.getD 35 0, l.getD 36 0, l.getD 37 0 == 1⟩ : Eg).t j) := by
 have key : ∀ j x, [xa, xb, xc][j]? = some x → I9 W (nP l j x) := fun j x hx => by
  obtain ⟨_, r1, r2⟩ := h j x hx
  refine ⟨Rd.part r1 (by simp [nP]) (fun i v hv => ?_), by simp [nP], Rd.part r2 (by simp [nP]) (fun i v hv => ?_), by simp [nP]⟩
  · match i, hv with
    | 0, hv => injection hv with hv; subst hv; rfl
    | 1, hv => injection hv with hv; subst hv; rfl
    | 2, hv => injection hv with hv; subst hv; rfl
    | i + 3, hv => simp [nP] at hv
  · match i, hv with
    | 0, hv => injection hv with hv; subst hv; rfl
    | 1, hv => injection hv with hv; subst hv; rfl
    | 2, hv => injection hv with hv; subst hv; rfl
    | 3, hv => injection hv with hv; subst hv; rfl
    | 4, hv => injection hv with hv; subst hv; rfl
    | 5, hv => injection hv with hv; subst hv; rfl
    | 6, hv => injection hv with hv; subst hv; rfl
    | 7, hv => injection hv with hv; subst hv; rfl
    | 8, hv => injection hv with hv; subst hv; rfl
    | i + 9, hv => simp [nP] at hv
 intro j hj
 obtain rfl | rfl | rfl : j = 0 ∨ j = 1 ∨ j = 2 := by omega
 · exact key 0 xa rfl
 · exact key 1 xb rfl
 · exact key 2 xc rfl
theorem P6 (l : List Int) (xa xb xc : Nat × Nat) : (GM l [xa, xb, xc] 4).setIfInBounds 28 (.bool (l.getD 37 0 == 1)) = (⟨l.getD 0 0, l.getD 1 0, l.getD 2 0, l.getD 3 0, nP l 0 xa, nP l 1 xb, nP l 2 xc, l.getD 31 0, l.getD 32 0, l.getD 33 0, l.getD 34 0, l.getD 35 0, l.getD 36 0, l.getD 37 0 == 1⟩ : Eg).R := by kernel_rfl
theorem zU (l : List Int) (A : Option Addr) (c : Nat) (w0 : World) (hl : Rd w0 A l) (Qz : l.length ≤ 100) : Calls Try.prog 19 #[.slice A l.length c] w0 fun x w' => ((∃ e : Eg, x = .returned (.tuple #[.agg e.R, I 0]) ∧ Gl l e ∧ (∀ j, j < 3 → I9 w' (e.t j)) ∧ e.ok = true) ∨ (x = .returned (.tuple #[.agg zE, I 2]) ∧ (l.length ≠ 38 ∨ ¬ (l.getD 37 0 = 0 ∨ l.getD 37 0 = 1) ∨ ∀ e : Eg, Gl l e → e.ok = false))) ∧ Below w0.heap.size w0 w' := by
 have HL := Lib.hid hl
 have Kw := Lib.hid Qz
 clear hl Qz
 go_enter Try.func19, Try.ntmps19
 go_upto_region 1 with fail
 have S1 : Hid (Row ((w0.alloc (.cells #[.slice A l.length c] 52)).alloc (.cells zE 37)) w0.heap.size 52 #[.slice A l.length c] ∧ Row ((w0.alloc (.cells #[.slice A l.length c] 52)).alloc (.cells zE 37)) (w0.heap.size + 1) 37 zE ∧ Below w0.heap.size w0 ((w0.alloc (.cells #[.slice A l.length c] 52)).alloc (.cells zE 37)) ∧ ((w0.alloc (.cells #[.slice A l.length c] 52)).alloc (.cells zE 37)).heap.size = w0.heap.size + 2) := Lib.hid (by
  have h2 := Row.new (w0.alloc (.cells #[.slice A l.length c] 52)) 37 zE
  rw [World.size_alloc] at h2
  exact ⟨(Row.new w0 52 _).alloc _, h2, ((Below.refl _ _).alloc (Nat.le_refl _) _).alloc (by simp) _, by simp⟩)
 change Code.wp _ _ _ _ ((w0.alloc (.cells #[.slice A l.length c] 52)).alloc (.cells zE 37))
 generalize (w0.alloc (.cells #[.slice A l.length c] 52)).alloc (.cells zE 37) = w1 at S1 ⊢
 have cb := S1.out.1.cell 0
 have Z2 : Hid (∀ w', Row w' (w0.heap.size + 1) 37 zE → w'.rangeAt (w0.heap.size + 1) 0 zE.toList) := Lib.hid (fun w' h => Row.whole h)
 have i37 : Hid ((Try.prog.info? 37).map (·.size) = some zE.size) := Lib.hid (by kernel_rfl)
 have one : Hid (zE.all (·.oneCell') = true) := Lib.hid (by kernel_rfl)
 have Yi := Lib.hid (Row.there S1.out.2.1)
 by_cases h38 : l.length = 38
 case neg =>
  have d1 : ((l.length : Int) != 38) = true := by rw [bne_iff_ne]; omega
  have TZ := Yi.out
  go_wp2_with (with_reducible refine wpList_store_mid rfl 37 (.tmp 2) (.tmp 32) rfl (w0.heap.size + 1) 0 zE rfl rfl TZ i37.out one.out ?_)
  have RZ := Row.full S1.out.2.1 zE rfl
  exact bodyPost_ret (iP rfl _ _ (w0.heap.size + 1) zE _ rfl (Row.whole RZ) Try.underlying37 rfl (by kernel_rfl)) rfl ⟨.inr ⟨rfl, .inl h38⟩, KK.b_ _ _ _ S1.out.2.2.1 (by omega)⟩
 have d1 : ((l.length : Int) != 38) = false := by rw [h38]; rfl
 obtain ⟨b, off, rfl, hb, hcells⟩ := (HL.out.below S1.out.2.2.1).cells (by omega)
 have hc := hcells 37 (l.getD 37 0) (dZ (by omega))
 have g37 : (37 : Int) < (l.length : Int) := by omega
 have H38 := Lib.hid h38
 obtain ⟨q, hq⟩ : ∃ q, l.getD 37 0 = q := ⟨_, rfl⟩
 rw [hq] at hc
 have HQ := Lib.hid hq
 clear hcells hb h38 hq
 by_cases JB : q = 0 ∨ q = 1
 case neg =>
  have d2 : (q != 0) = true := by rw [bne_iff_ne]; exact fun e => JB (.inl e)
  have d3 : (q != 1) = true := by rw [bne_iff_ne]; exact fun e => JB (.inr e)
  have TZ := Yi.out
  go_wp2_with (with_reducible refine wpList_store_mid rfl 37 (.tmp 2) (.tmp 32) rfl (w0.heap.size + 1) 0 zE rfl rfl TZ i37.out one.out ?_)
  have RZ := Row.full S1.out.2.1 zE rfl
  exact bodyPost_ret (iP rfl _ _ (w0.heap.size + 1) zE _ rfl (Row.whole RZ) Try.underlying37 rfl (by kernel_rfl)) rfl ⟨.inr ⟨rfl, .inr (.inl (by rw [HQ.out]; exact JB))⟩, KK.b_ _ _ _ S1.out.2.2.1 (by omega)⟩
 have V_ := Lib.hid JB
 have SQ : Hid (Sq l (some ⟨b, off, none⟩) c w0 (((w1.alloc (.cells #[I 0] 3)).alloc (.cells zE 37))) 0 (Po l 0)) := Lib.hid (by
  have r3 := Row.new w1 3 #[I 0]
  have r4 := Row.new (w1.alloc (.cells #[I 0] 3)) 37 zE
  rw [World.size_alloc, S1.out.2.2.2] at r4
  rw [S1.out.2.2.2] at r3
  exact ⟨r3.alloc _, (S1.out.1.alloc _).alloc _, r4, (S1.out.2.1.alloc _).alloc _, (S1.out.2.2.1.alloc S1.out.2.2.1.size _).alloc (Nat.le_trans S1.out.2.2.1.size (by simp)) _⟩)
 have sz1 := S1.out.2.2.2
 have E2 : Hid (∃ d2 : Bool, (q != 0) = d2 ∧ (d2 = true → (q != 1) = false)) := Lib.hid (by
  rcases V_.out with rfl | rfl
  · exact ⟨false, rfl, fun h => (by cases h)⟩
  · exact ⟨true, rfl, fun _ => rfl⟩)
 obtain ⟨t31, ht⟩ : ∃ t : Nat, t = 0 := ⟨0, rfl⟩
 go_upto_region 1 with fail
 go_cut [31] (fun v wc => v = .bool false ∧ wc = w1)
 case first =>
  rcases V_.out with rfl | rfl
  all_goals
   go_wp2_with fail
   go_meet
   exact ⟨rfl, rfl⟩
 case rest =>
 obtain ⟨rfl, rfl⟩ := hcut
 have NX : Hid (∀ W k cs y, Sq l (some ⟨b, off, none⟩) c w0 W k cs → l.getD k 0 = y → k < 38 → Calls Try.prog 44 #[.pointer (some ⟨w0.heap.size + 2, 0, none⟩), .pointer (some ⟨w0.heap.size, 0, none⟩)] W fun x W' => x = .returned (I y) ∧ Sq l (some ⟨b, off, none⟩) c w0 W' (k + 1) cs ∧ Far (w0.heap.size + 2) W W') := Lib.hid (fun W k cs y S hy hk => by subst hy; exact BM S HL.out (dZ (by have := H38.out; omega)) Kw.out)
 clear E2 ht hc d1 g37 cb Z2
 go_upto_region 6 with fail
 rw [show w0.heap.size + 2 + 1 = w0.heap.size + 3 from rfl]
 change Code.wp _ _ _ _ ((wc.alloc (.cells #[I 0] 3)).alloc (.cells zE 37))
 generalize ((wc.alloc (.cells #[I 0] 3)).alloc (.cells zE 37)) = w2 at SQ ⊢
 clear S1 sz1 Yi
 go_wp2_with fail
 go_loopw [34] (fun i wr => ∃ k : Nat, k ≤ 4 ∧ i = .int .i64 k ∧ Hid (Sq l (some ⟨b, off, none⟩) c w0 wr k (Po l k))) (fun i _ => 4 - (intOf i).toNat)
 case atStart => exact ⟨0, by omega, rfl, SQ⟩
 case round =>
  clear SQ
  obtain ⟨k, hk, rfl, S⟩ := hrel
  obtain rfl | hlt : k = 4 ∨ k < 4 := by omega
  case inr =>
   have uJ := Lib.hid hlt
   have d1 : decide ((k : Int) < 4) = true := decide_eq_true (by omega)
   have g0 : (0 : Int) ≤ (k : Int) := by omega
   have g1 : (k : Int) < 4 := by omega
   clear hk hlt
   go_wp2_with fail
   refine (NX.out _ _ _ _ S.out rfl (by have := uJ.out; omega)).mono ?_
   rintro x w3 ⟨rfl, hs, hf⟩
   have HS := Lib.hid (hs.set k (I (l.getD k 0)))
   obtain ⟨u, hu⟩ : ∃ u, w3.cell? ⟨w0.heap.size + 3, k, none⟩ = some u := by
    rw [hs.e.cell]
    exact ⟨_, Array.getElem?_eq_getElem (by rw [vN]; have := uJ.out; omega)⟩
   have fu := hs.e.free k
   clear hs hf S
   have hw : IntKind.i64.wrap ((k : Int) + 1) = ((k + 1 : Nat) : Int) := by rw [IntWalk.i64_in _ (by omega)]; omega
   go_wp2
   go_roundw
   case rel => exact ⟨k + 1, uJ.out, by first | rfl | (simp [hw]) | (rw [hw]), HS⟩
   case measure =>
    have := uJ.out
    simp [intOf, hw]
    omega
  case inl =>
  have SB : Hid (Sq l (some ⟨b, off, none⟩) c w0 wr 4 (I7 l [])) := S
  clear S hk
  go_wp2_with fail
  go_loopw [43] (fun i wl => ∃ ax : List (Nat × Nat), ax.length ≤ 3 ∧ i = .int .i64 ax.length ∧ Hid (Sq l (some ⟨b, off, none⟩) c w0 wl (4 + 9 * ax.length) (I7 l ax)) ∧ Hid (Gh l (w0.heap.size + 4) wl ax)) (fun i _ => 3 - (intOf i).toNat)
  case atStart => exact ⟨[], by simp, rfl, SB, Lib.hid (fun j x hx => by simp at hx)⟩
  case round =>
   clear SB
   obtain ⟨ax, hk, rfl, S0, A0⟩ := hrel
   obtain ⟨i, hi⟩ : ∃ i, ax.length = i := ⟨_, rfl⟩
   rw [hi] at S0 hk ⊢
   obtain rfl | hlt : i = 3 ∨ i < 3 := by omega
   case inr =>
    have uJ := Lib.hid hlt
    have d1 : decide ((i : Int) < 3) = true := decide_eq_true (by omega)
    have g0 : (0 : Int) ≤ (i : Int) := by omega
    have g1 : (i : Int) < 3 := by omega
    have HI := Lib.hid hi
    clear hk hlt hi
    obtain ⟨y1, hy1⟩ : ∃ y, l.getD (4 + 9 * i) 0 = y := ⟨_, rfl⟩
    have Y1 := Lib.hid hy1
    clear hy1
    go_wp2_with fail
    refine (NX.out _ _ _ _ S0.out Y1.out (by have := uJ.out; omega)).mono ?_
    rintro x v1 ⟨rfl, hs, hf⟩
    have S1 := Lib.hid hs
    have A1 := Lib.hid (A0.out.keep (fun g t cs hg R => hf.row (by omega) R))
    clear hs hf S0 A0
    obtain ⟨y2, hy2⟩ : ∃ y, l.getD (4 + 9 * i + 1) 0 = y := ⟨_, rfl⟩
    have Y2 := Lib.hid hy2
    clear hy2
    go_wp2_with fail
    refine (NX.out _ _ _ _ S1.out Y2.out (by have := uJ.out; omega)).mono ?_
    rintro x v2 ⟨rfl, hs, hf⟩
    have S2 := Lib.hid hs
    have A2 := Lib.hid (A1.out.keep (fun g t cs hg R => hf.row (by omega) R))
    clear hs hf S1 A1
    obtain ⟨y3, hy3⟩ : ∃ y, l.getD (4 + 9 * i + 2) 0 = y := ⟨_, rfl⟩
    have Y3 := Lib.hid hy3
    clear hy3
    go_wp2_with fail
    refine (NX.out _ _ _ _ S2.out Y3.out (by have := uJ.out; omega)).mono ?_
    rintro x v3 ⟨rfl, hs, hf⟩
    have S3 := Lib.hid hs
    have A3 := Lib.hid (A2.out.keep (fun g t cs hg R => hf.row (by omega) R))
    clear hs hf S2 A2
    have BX : Hid (w0.heap.size + 4 ≤ v3.heap.size) := Lib.hid (by have := S3.out.e.lt; omega)
    have SX := Lib.hid (S3.out.alloc (.cells #[I y1, I y2, I y3] 22))
    have AX := Lib.hid (A3.out.keep (fun g t cs hg R => Row.alloc R (.cells #[I y1, I y2, I y3] 22)))
    have XB := Lib.hid (Row.new v3 22 #[I y1, I y2, I y3])
    clear S3 A3
    obtain ⟨y4, hy4⟩ : ∃ y, l.getD (4 + 9 * i + 3) 0 = y := ⟨_, rfl⟩
    have Y4 := Lib.hid hy4
    clear hy4
    go_wp2_with fail
    refine (NX.out _ _ _ _ SX.out Y4.out (by have := uJ.out; omega)).mono ?_
    rintro x v4 ⟨rfl, hs, hf⟩
    have S4 := Lib.hid hs
    have A4 := Lib.hid (AX.out.keep (fun g t cs hg R => hf.row (by omega) R))
    have X4 := Lib.hid (hf.row (show v3.heap.size ≠ w0.heap.size + 2 by have := BX.out; omega) XB.out)
    clear hs hf SX AX XB
    obtain ⟨y5, Zv⟩ : ∃ y, l.getD (4 + 9 * i + 4) 0 = y := ⟨_, rfl⟩
    have Y5 := Lib.hid Zv
    clear Zv
    go_wp2_with fail
    refine (NX.out _ _ _ _ S4.out Y5.out (by have := uJ.out; omega)).mono ?_
    rintro x v5 ⟨rfl, hs, hf⟩
    have S5 := Lib.hid hs
    have A5 := Lib.hid (A4.out.keep (fun g t cs hg R => hf.row (by omega) R))
    have X5 := Lib.hid (hf.row (show v3.heap.size ≠ w0.heap.size + 2 by have := BX.out; omega) X4.out)
    clear hs hf S4 A4 X4
    obtain ⟨y6, Zu⟩ : ∃ y, l.getD (4 + 9 * i + 5) 0 = y := ⟨_, rfl⟩
    have Y6 := Lib.hid Zu
    clear Zu
    go_wp2_with fail
    refine (NX.out _ _ _ _ S5.out Y6.out (by have := uJ.out; omega)).mono ?_
    rintro x v6 ⟨rfl, hs, hf⟩
    have S6 := Lib.hid hs
    have A6 := Lib.hid (A5.out.keep (fun g t cs hg R => hf.row (by omega) R))
    have X6 := Lib.hid (hf.row (show v3.heap.size ≠ w0.heap.size + 2 by have := BX.out; omega) X5.out)
    clear hs hf S5 A5 X5
    obtain ⟨y7, Zt⟩ : ∃ y, l.getD (4 + 9 * i + 6) 0 = y := ⟨_, rfl⟩
    have Y7 := Lib.hid Zt
    clear Zt
    go_wp2_with fail
    refine (NX.out _ _ _ _ S6.out Y7.out (by have := uJ.out; omega)).mono ?_
    rintro x v7 ⟨rfl, hs, hf⟩
    have S7 := Lib.hid hs
    have A7 := Lib.hid (A6.out.keep (fun g t cs hg R => hf.row (by omega) R))
    have X7 := Lib.hid (hf.row (show v3.heap.size ≠ w0.heap.size + 2 by have := BX.out; omega) X6.out)
    clear hs hf S6 A6 X6
    obtain ⟨y8, Zr⟩ : ∃ y, l.getD (4 + 9 * i + 7) 0 = y := ⟨_, rfl⟩
    have Y8 := Lib.hid Zr
    clear Zr
    go_wp2_with fail
    refine (NX.out _ _ _ _ S7.out Y8.out (by have := uJ.out; omega)).mono ?_
    rintro x v8 ⟨rfl, hs, hf⟩
    have S8 := Lib.hid hs
    have A8 := Lib.hid (A7.out.keep (fun g t cs hg R => hf.row (by omega) R))
    have X8 := Lib.hid (hf.row (show v3.heap.size ≠ w0.heap.size + 2 by have := BX.out; omega) X7.out)
    clear hs hf S7 A7 X7
    obtain ⟨y9, Zq⟩ : ∃ y, l.getD (4 + 9 * i + 8) 0 = y := ⟨_, rfl⟩
    have Y9 := Lib.hid Zq
    clear Zq
    go_wp2_with fail
    refine (NX.out _ _ _ _ S8.out Y9.out (by have := uJ.out; omega)).mono ?_
    rintro x v9 ⟨rfl, hs, hf⟩
    have S9 := Lib.hid hs
    have A9 := Lib.hid (A8.out.keep (fun g t cs hg R => hf.row (by omega) R))
    have X9 := Lib.hid (hf.row (show v3.heap.size ≠ w0.heap.size + 2 by have := BX.out; omega) X8.out)
    clear hs hf S8 A8 X8
    have BY : Hid (w0.heap.size + 4 ≤ v9.heap.size) := Lib.hid (by have := S9.out.e.lt; omega)
    have SY := Lib.hid (S9.out.alloc (.cells #[I y4, I y5, I y6, I y5, I y7, I y8, I y6, I y8, I y9] 22))
    have AY := Lib.hid (A9.out.keep (fun g t cs hg R => Row.alloc R (.cells #[I y4, I y5, I y6, I y5, I y7, I y8, I y6, I y8, I y9] 22)))
    have XY := Lib.hid (Row.alloc X9.out (.cells #[I y4, I y5, I y6, I y5, I y7, I y8, I y6, I y8, I y9] 22))
    have YB := Lib.hid (Row.new v9 22 #[I y4, I y5, I y6, I y5, I y7, I y8, I y6, I y8, I y9])
    clear S9 A9 X9
    have TH : Hid (World.there _ (w0.heap.size + 3) (4 + i * 6) (#[.int .i64 3, .int .i64 1, .slice (some ⟨v3.heap.size, 0, none⟩) 3 3, .int .i64 3, .int .i64 3, .slice (some ⟨v9.heap.size, 0, none⟩) 9 9] : Array Value).size) := Lib.hid (Gq SY.out.e (4 + i * 6) 6 (by rw [vM]; have := uJ.out; omega))
    have i33 : Hid ((Try.prog.info? 33).map (·.size) = some (#[.int .i64 3, .int .i64 1, .slice (some ⟨v3.heap.size, 0, none⟩) 3 3, .int .i64 3, .int .i64 3, .slice (some ⟨v9.heap.size, 0, none⟩) 9 9] : Array Value).size) := Lib.hid (by kernel_rfl)
    have o33 : Hid ((#[.int .i64 3, .int .i64 1, .slice (some ⟨v3.heap.size, 0, none⟩) 3 3, .int .i64 3, .int .i64 3, .slice (some ⟨v9.heap.size, 0, none⟩) 9 9] : Array Value).all (·.oneCell') = true) := Lib.hid (by kernel_rfl)
    have hw : IntKind.i64.wrap ((i : Int) + 1) = ((i + 1 : Nat) : Int) := by rw [IntWalk.i64_in _ (by omega)]; omega
    go_wp2_with (with_reducible refine wpList_store_mid rfl 33 (.tmp 81) (.tmp 79) rfl (w0.heap.size + 3) (4 + i * 6) #[.int .i64 3, .int .i64 1, .slice (some ⟨v3.heap.size, 0, none⟩) 3 3, .int .i64 3, .int .i64 3, .slice (some ⟨v9.heap.size, 0, none⟩) 9 9] rfl rfl TH.out i33.out o33.out ?_)
    have SF : Hid (Sq l (some ⟨b, off, none⟩) c w0 ((v9.alloc (.cells #[I y4, I y5, I y6, I y5, I y7, I y8, I y6, I y8, I y9] 22)).setCells (w0.heap.size + 3) (4 + i * 6) (Pz (v3.heap.size, v9.heap.size)).toList) (4 + 9 * (i + 1)) (I7 l (ax ++ [(v3.heap.size, v9.heap.size)]))) := Lib.hid (by
     have e : 4 + 9 * (i + 1) = 4 + 9 * i + 1 + 1 + 1 + 1 + 1 + 1 + 1 + 1 + 1 := by omega
     rw [e]
     exact SY.out.cells (4 + i * 6) _ _ (by rw [Jn, HI.out]))
    have AF : Hid (Gh l (w0.heap.size + 4) ((v9.alloc (.cells #[I y4, I y5, I y6, I y5, I y7, I y8, I y6, I y8, I y9] 22)).setCells (w0.heap.size + 3) (4 + i * 6) (Pz (v3.heap.size, v9.heap.size)).toList) (ax ++ [(v3.heap.size, v9.heap.size)])) := Lib.hid (by
     have K : ∀ g t cs, w0.heap.size + 4 ≤ g → Row (v9.alloc (.cells #[I y4, I y5, I y6, I y5, I y7, I y8, I y6, I y8, I y9] 22)) g t cs → Row ((v9.alloc (.cells #[I y4, I y5, I y6, I y5, I y7, I y8, I y6, I y8, I y9] 22)).setCells (w0.heap.size + 3) (4 + i * 6) (Pz (v3.heap.size, v9.heap.size)).toList) g t cs := fun g t cs hg R => (OG.gq _ _ _ _ (by omega)).trans R
     refine (AY.out.keep K).snoc ⟨BX.out, BY.out⟩ ?_ ?_
     · rw [HI.out, show r3 l i = #[I y1, I y2, I y3] by simp only [r3, Y1.out, Y2.out, Y3.out]]
       exact K _ _ _ BX.out XY.out
     · rw [HI.out, show r9 l i = #[I y4, I y5, I y6, I y5, I y7, I y8, I y6, I y8, I y9] by simp only [r9, Y4.out, Y5.out, Y6.out, Y7.out, Y8.out, Y9.out]]
       exact K _ _ _ BY.out YB.out)
    have HF : Hid ((ax ++ [(v3.heap.size, v9.heap.size)]).length = i + 1) := Lib.hid (by simp [HI.out])
    clear SY AY XY YB TH i33
    go_roundw
    case rel =>
     have SF2 : Hid (Sq l (some ⟨b, off, none⟩) c w0 _ (4 + 9 * (ax ++ [(v3.heap.size, v9.heap.size)]).length) (I7 l (ax ++ [(v3.heap.size, v9.heap.size)]))) := Lib.hid (by rw [HF.out]; exact SF.out)
     repeat apply Exists.intro
     refine ⟨⟨ax ++ [(v3.heap.size, v9.heap.size)], ?_, ?_, SF2, AF⟩, rfl⟩
     · rw [HF.out]; have := uJ.out; omega
     · rw [HF.out]; first | rfl | (simp [hw]) | (rw [hw])
    case measure =>
     have := uJ.out
     simp [intOf, hw]
     omega
   case inl =>
    clear hk
    obtain ⟨xa, xb, xc, hx3⟩ := Qd hi
    subst hx3
    clear hi
    obtain ⟨p31, h31⟩ : ∃ y, l.getD 31 0 = y := ⟨_, rfl⟩
    obtain ⟨p32, h32⟩ : ∃ y, l.getD 32 0 = y := ⟨_, rfl⟩
    have P31 := Lib.hid h31
    have P32 := Lib.hid h32
    clear h31 h32
    go_wp2_with fail
    refine (NX.out _ _ _ _ S0.out P31.out (by decide)).mono ?_
    rintro x v1 ⟨rfl, hs, hf⟩
    have S1 := Lib.hid hs
    have A1 := Lib.hid (A0.out.keep (fun g t cs hg R => hf.row (by omega) R))
    clear hs hf S0 A0
    go_wp2_with fail
    refine (NX.out _ _ _ _ S1.out P32.out (by decide)).mono ?_
    rintro x v2 ⟨rfl, hs, hf⟩
    have S2 := Lib.hid hs
    have A2 := Lib.hid (A1.out.keep (fun g t cs hg R => hf.row (by omega) R))
    clear hs hf S1 A1
    have SZ := vM l [xa, xb, xc]
    have hce : ∀ i, v2.cell? ⟨w0.heap.size + 3, i, none⟩ = (I7 l [xa, xb, xc])[i]? := S2.out.e.cell
    obtain ⟨u22, Nc⟩ : ∃ u, v2.cell? ⟨w0.heap.size + 3, 22, none⟩ = some u := ⟨_, (hce 22).trans (Array.getElem?_eq_getElem (by rw [SZ]; decide))⟩
    obtain ⟨u23, Nb⟩ : ∃ u, v2.cell? ⟨w0.heap.size + 3, 23, none⟩ = some u := ⟨_, (hce 23).trans (Array.getElem?_eq_getElem (by rw [SZ]; decide))⟩
    have f22 := S2.out.e.free
    have S3 : Hid (Sq l (some ⟨b, off, none⟩) c w0 ((v2.setCell ⟨w0.heap.size + 3, 22, none⟩ (I p31)).setCell ⟨w0.heap.size + 3, 23, none⟩ (I p32)) 33 (GM l [xa, xb, xc] 0)) := Lib.hid (by
     rw [GM, P31.out, P32.out]
     exact (S2.out.set 22 (I p31)).set 23 (I p32))
    have A3 : Hid (Gh l (w0.heap.size + 4) ((v2.setCell ⟨w0.heap.size + 3, 22, none⟩ (I p31)).setCell ⟨w0.heap.size + 3, 23, none⟩ (I p32)) [xa, xb, xc]) := Lib.hid (A2.out.keep (fun g t cs hg R => Row.far (Row.far R (show g ≠ w0.heap.size + 3 by omega) _) (show g ≠ w0.heap.size + 3 by omega) _))
    clear SZ hce S2 A2
    go_upto_region 19 with fail
    generalize (v2.setCell ⟨w0.heap.size + 3, 22, none⟩ (I p31)).setCell ⟨w0.heap.size + 3, 23, none⟩ (I p32) = v3 at S3 A3 ⊢
    clear Nc Nb f22
    go_wp2_with fail
    go_loopw [89] (fun i wl => ∃ k : Nat, k ≤ 4 ∧ i = .int .i64 k ∧ Hid (Sq l (some ⟨b, off, none⟩) c w0 wl (33 + k) (GM l [xa, xb, xc] k)) ∧ Hid (Gh l (w0.heap.size + 4) wl [xa, xb, xc])) (fun i _ => 4 - (intOf i).toNat)
    case atStart => exact ⟨0, by omega, rfl, S3, A3⟩
    case round =>
     clear S3 A3
     obtain ⟨k, hk, rfl, S, A⟩ := hrel
     obtain rfl | hlt : k = 4 ∨ k < 4 := by omega
     case inr =>
      have uJ := Lib.hid hlt
      have d1 : decide ((k : Int) < 4) = true := decide_eq_true (by omega)
      have g0 : (0 : Int) ≤ (k : Int) := by omega
      have g1 : (k : Int) < 4 := by omega
      clear hk hlt
      obtain ⟨y, hy⟩ : ∃ y, l.getD (33 + k) 0 = y := ⟨_, rfl⟩
      have Y := Lib.hid hy
      clear hy
      go_wp2_with fail
      refine (NX.out _ _ _ _ S.out Y.out (by have := uJ.out; omega)).mono ?_
      rintro x v4 ⟨rfl, hs, hf⟩
      have HS : Hid (Sq l (some ⟨b, off, none⟩) c w0 (v4.setCell ⟨w0.heap.size + 3, 24 + k, none⟩ (I y)) (33 + (k + 1)) (GM l [xa, xb, xc] (k + 1))) := Lib.hid (by rw [GM, Y.out]; exact hs.set (24 + k) (I y))
      have HA : Hid (Gh l (w0.heap.size + 4) (v4.setCell ⟨w0.heap.size + 3, 24 + k, none⟩ (I y)) [xa, xb, xc]) := Lib.hid ((A.out.keep (fun g t cs hg R => hf.row (by omega) R)).keep (fun g t cs hg R => Row.far R (show g ≠ w0.heap.size + 3 by omega) _))
      obtain ⟨u, hu⟩ : ∃ u, v4.cell? ⟨w0.heap.size + 3, 24 + k, none⟩ = some u := by
       rw [hs.e.cell]
       exact ⟨_, Array.getElem?_eq_getElem (by rw [vK]; have := uJ.out; omega)⟩
      have fu := hs.e.free (24 + k)
      clear hs hf S A
      have hw : IntKind.i64.wrap ((k : Int) + 1) = ((k + 1 : Nat) : Int) := by rw [IntWalk.i64_in _ (by omega)]; omega
      go_wp2
      go_roundw
      case rel => exact ⟨k + 1, uJ.out, by first | rfl | (simp [hw]) | (rw [hw]), HS, HA⟩
      case measure =>
       have := uJ.out
       simp [intOf, hw]
       omega
     case inl =>
     clear hk
     obtain ⟨y, hy⟩ : ∃ y, l.getD 37 0 = y := ⟨_, rfl⟩
     have Y := Lib.hid hy
     clear hy
     go_wp2_with fail
     refine (NX.out _ _ _ _ S.out Y.out (by decide)).mono ?_
     rintro x v4 ⟨rfl, hs, hf⟩
     have HS := Lib.hid (hs.set 28 (.bool (y == 1)))
     have HA : Hid (Gh l (w0.heap.size + 4) (v4.setCell ⟨w0.heap.size + 3, 28, none⟩ (.bool (y == 1))) [xa, xb, xc]) := Lib.hid ((A.out.keep (fun g t cs hg R => hf.row (by omega) R)).keep (fun g t cs hg R => Row.far R (show g ≠ w0.heap.size + 3 by omega) _))
     obtain ⟨u, hu⟩ : ∃ u, v4.cell? ⟨w0.heap.size + 3, 28, none⟩ = some u := by
      rw [hs.e.cell]
      exact ⟨_, Array.getElem?_eq_getElem (by rw [vK]; decide)⟩
     have fu := hs.e.free 28
     clear hs hf S A
     go_upto_region 25 with fail
     generalize v4.setCell ⟨w0.heap.size + 3, 28, none⟩ (.bool (y == 1)) = v5 at HS HA ⊢
     clear hu fu
     obtain ⟨e, he⟩ : ∃ e : Eg, e = ⟨l.getD 0 0, l.getD 1 0, l.getD 2 0, l.getD 3 0, nP l 0 xa, nP l 1 xb, nP l 2 xc, l.getD 31 0, l.getD 32 0, l.getD 33 0, l.getD 34 0, l.getD 35 0, l.getD 36 0, l.getD 37 0 == 1⟩ := ⟨_, rfl⟩
     have ER : Hid ((GM l [xa, xb, xc] 4).setIfInBounds 28 (.bool (y == 1)) = e.R) := Lib.hid (by rw [he, ← Y.out]; exact P6 l xa xb xc)
     have OE : Hid (Gl l e) := Lib.hid (by rw [he]; exact P5 l xa xb xc H38.out (by rw [HQ.out]; exact V_.out))
     have RE : Hid (Row v5 (w0.heap.size + 3) 37 e.R) := Lib.hid (by have := HS.out.e; rw [ER.out] at this; exact this)
     have RT : Hid (∀ j, j < 3 → I9 v5 (e.t j)) := Lib.hid (by rw [he]; exact GI HA.out)
     have RZ := Lib.hid HS.out.z
     have BZ := Lib.hid HS.out.be
     have RL := Lib.hid (Row.whole RE.out)
     have Jy : Hid ((Try.prog.info? 37).map (·.size) = some e.R.toList.length) := Lib.hid (by kernel_rfl)
     have WJ : Hid ((Try.prog.info? 37).map (·.size) = some e.R.size) := Lib.hid (by kernel_rfl)
     have WB : Hid (e.R.all (·.oneCell') = true) := Lib.hid (by kernel_rfl)
     have HE := Lib.hid he
     clear HS ER he Y NX HQ V_
     go_wp2_with (with_reducible refine OG.iD rfl 37 (.tmp 6) rfl (w0.heap.size + 3) 0 rfl e.R.toList _ RL.out Try.underlying37 rfl Jy.out ?_)
     refine (oP e _ RT.out).mono ?_
     rintro x v6 ⟨rfl, hb⟩
     have VS := Lib.hid (RZ.out.below hb RZ.out.lt)
     have RL6 := Lib.hid (Row.whole (RE.out.below hb RE.out.lt))
     have HA6 := Lib.hid (HA.out.keep (fun g t cs hg R => R.below hb R.lt))
     have BZ6 : Hid (Below w0.heap.size w0 v6) := Lib.hid (BZ.out.trans (hb.mono BZ.out.size))
     clear hb RZ RL RE HA BZ RT
     cases hok : e.ok
     case false =>
      have NO : Hid (∀ e' : Eg, Gl l e' → e'.ok = false) := Lib.hid (fun e' h => (h.same OE.out).trans hok)
      clear hok
      have TZ := Row.there VS.out
      go_wp2_with (with_reducible refine wpList_store_mid rfl 37 (.tmp 2) (.tmp 105) rfl (w0.heap.size + 1) 0 zE rfl rfl TZ i37.out one.out ?_)
      have RZ := Row.full VS.out zE rfl
      exact bodyPost_ret (iP rfl _ _ (w0.heap.size + 1) zE _ rfl (Row.whole RZ) Try.underlying37 rfl (by kernel_rfl)) rfl ⟨.inr ⟨rfl, .inr (.inr NO.out)⟩, KK.b_ _ _ _ BZ6.out (by omega)⟩
     case true =>
      have OKK := Lib.hid hok
      clear hok
      have TH : Hid (v6.there (w0.heap.size + 1) 0 e.R.size) := Lib.hid (show v6.there (w0.heap.size + 1) 0 e.R.size from (Row.there VS.out : v6.there (w0.heap.size + 1) 0 zE.size))
      go_wp2_with (first | with_reducible refine OG.iD rfl 37 (.tmp 6) rfl (w0.heap.size + 3) 0 rfl e.R.toList _ RL6.out Try.underlying37 rfl Jy.out ?_ | with_reducible refine wpList_store_mid rfl 37 (.tmp 2) (.tmp 106) rfl (w0.heap.size + 1) 0 e.R rfl rfl TH.out WJ.out WB.out ?_)
      have RF := Row.full VS.out e.R rfl
      have HAF := HA6.out.keep (fun g t cs hg R => (OG.gq e.R.toList 0 v6 g (show g ≠ w0.heap.size + 1 by omega)).trans R)
      refine bodyPost_ret (iP rfl _ _ (w0.heap.size + 1) e.R _ rfl (Row.whole RF) Try.underlying37 rfl (by kernel_rfl)) rfl ⟨.inl ⟨e, rfl, OE.out, ?_, OKK.out⟩, KK.b_ _ _ _ BZ6.out (by omega)⟩
      have HB := GI HAF
      rw [← HE.out] at HB
      exact HB
end Go.Proofs.Ytnijhjbcjeohhaa.EE

namespace Go.Proofs.Ytnijhjbcjeohhaa.EE
open Go.RowKit Go.Proofs.Ytnijhjbcjeohhaa.KK Go.Proofs.af.aF Go.Proofs.af.aP Go.Proofs.af.aQ
set_option linter.unusedVariables false
set_option linter.unusedSimpArgs false
theorem Gw {w w' : World} {n : Nat} (h : Below n w w') (k : Nat) : Below n w (w'.drewN k) := ah h k
theorem wW (a0 b0 : List Int) (A B : Option Addr) (ca cb : Nat) (w : World) (ha : Rd w A a0) (hb : Rd w B b0) (Zp : a0.length ≤ 1000000) :
 Calls Try.prog 21 #[.slice A a0.length ca, .slice B b0.length cb] w fun x w' => ∃ r : Bool, x = .returned (.bool r) ∧ (r = true ↔ a0 = b0) ∧ Below w.heap.size w w' := by
 have HA := Lib.hid ha
 have HB := Lib.hid hb
 have la := Lib.hid Zp
 clear ha hb Zp
 go_enter Try.func21, Try.ntmps21
 by_cases hl : a0.length = b0.length
 case neg =>
  have hd : ((a0.length : Int) != (b0.length : Int)) = true := by rw [bne_iff_ne]; omega
  go_wp2
  go_ret
  exact ⟨false, rfl, ⟨fun h => (by cases h), fun e => absurd (congrArg List.length e) hl⟩, Below.refl _ _⟩
 have hd : ((a0.length : Int) != (b0.length : Int)) = false := by simp [hl]
 have HL := Lib.hid hl
 clear hl
 go_wp2
 clear hd
 go_loopw [5] (fun i wr => ∃ k : Nat, k ≤ a0.length ∧ i = .int .i64 k ∧ Hid (Below w.heap.size w wr ∧ ∀ j, j < k → a0[j]? = b0[j]?)) (fun i _ => a0.length - (intOf i).toNat)
 case atStart => exact ⟨0, by omega, rfl, Below.refl _ _, fun j hj => by omega⟩
 case round =>
  obtain ⟨k, hk, rfl, F⟩ := hrel
  obtain rfl | hlt : k = a0.length ∨ k < a0.length := by omega
  · go_wp2
    go_ret
    refine ⟨true, rfl, ⟨fun _ => ?_, fun _ => rfl⟩, F.out.1⟩
    apply List.ext_getElem?
    intro j
    have HLL := HL.out
    by_cases hj : j < a0.length
    · exact F.out.2 j hj
    · rw [List.getElem?_eq_none (by omega), List.getElem?_eq_none (by omega)]
  · have hlb : k < b0.length := by have := HL.out; omega
    obtain ⟨s, hs⟩ : ∃ s, a0[k]? = some s := ⟨_, List.getElem?_eq_getElem hlt⟩
    obtain ⟨t, ht⟩ : ∃ t, b0[k]? = some t := ⟨_, List.getElem?_eq_getElem hlb⟩
    obtain ⟨b1, o1, rfl, _, h1⟩ := (HA.out.below F.out.1).cells (by omega)
    obtain ⟨b2, o2, rfl, _, h2⟩ := (HB.out.below F.out.1).cells (by omega)
    have c1 := h1 k s hs
    have c2 := h2 k t ht
    have HST := Lib.hid (And.intro hs ht)
    have uJ := Lib.hid hlt
    have d0 : decide ((k : Int) < (a0.length : Int)) = true := decide_eq_true (by omega)
    have d1 : decide (k < a0.length) = true := decide_eq_true hlt
    have g0 : (0 : Int) ≤ (k : Int) := by omega
    have g1 : (k : Int) < (a0.length : Int) := by omega
    have g2 : (k : Int) < (b0.length : Int) := by omega
    have hw : IntKind.i64.wrap ((k : Int) + 1) = ((k + 1 : Nat) : Int) := by rw [IntWalk.i64_in _ (by have := la.out; omega)]; omega
    clear h1 h2 hs ht hlt hlb hk
    by_cases he : s = t
    · have d2 : (s != t) = false := by simp [he]
      have HE := Lib.hid he
      clear he
      go_wp2
      go_quiet (fail)
      go_wp2
      go_roundw
      case rel => exact ⟨k + 1, uJ.out, by first | rfl | (simp [hw]) | (rw [hw]), Lib.hid ⟨Gw F.out.1 _, fun j hj => by
       obtain rfl | h : j = k ∨ j < k := by omega
       · rw [HST.out.1, HST.out.2, HE.out]
       · exact F.out.2 j h⟩⟩
      case measure =>
       have := uJ.out
       simp [intOf, hw]
       omega
    · have d2 : (s != t) = true := by rw [bne_iff_ne]; exact he
      have HE := Lib.hid he
      clear he
      go_wp2
      go_quiet (fail)
      go_wp2
      go_ret
      refine ⟨false, rfl, ⟨fun h => (by cases h), fun e => ?_⟩, Gw F.out.1 _⟩
      have h1 := HST.out.1
      rw [e, HST.out.2] at h1
      injection h1 with h1
      exact absurd h1.symm HE.out
theorem G9 (w : World) (z D : Array Value) (t : TypeId) (hD : D.size = z.size) :
 Row ((w.alloc (.cells z t)).setCells w.heap.size 0 D.toList) w.heap.size t D ∧ Below w.heap.size w ((w.alloc (.cells z t)).setCells w.heap.size 0 D.toList) :=
 ⟨Row.full (Row.new w t z) D hD, KK.b_ _ _ _ ((Below.refl _ _).alloc (Nat.le_refl _) _) (Nat.le_refl _)⟩
def Eg.es (e : Eg) : Es := ⟨e.q0, e.q1, e.q2, e.q3, ⟨e.t0.A, e.t0.cx, e.t0.x, e.t0.B, e.t0.cp, e.t0.p⟩, ⟨e.t1.A, e.t1.cx, e.t1.x, e.t1.B, e.t1.cp, e.t1.p⟩, ⟨e.t2.A, e.t2.cx, e.t2.x, e.t2.B, e.t2.cp, e.t2.p⟩, e.steps, e.dP, e.f0, e.f1, e.f2, e.f3, e.sat⟩
theorem Gl.row {l : List Int} {e : Eg} (h : Gl l e) : e.R = e.es.R := by
 obtain ⟨a1, a2, _, a4, a5, _⟩ := h.t0
 obtain ⟨b1, b2, _, b4, b5, _⟩ := h.t1
 obtain ⟨c1, c2, _, c4, c5, _⟩ := h.t2
 unfold Eg.R Eg.row Es.R Es.row
 rw [a1, a2, a4, a5, b1, b2, b4, b5, c1, c2, c4, c5]
 rfl
theorem Jb {l : List Int} (h : l.length = 38) : l = (List.range 38).map fun k => l.getD k 0 := by
 apply List.ext_getElem?
 intro j
 by_cases hj : j < 38
 · rw [List.getElem?_map, List.getElem?_range hj]
   exact dZ (by omega)
 · rw [List.getElem?_eq_none (by omega), List.getElem?_eq_none (by simp; omega)]
theorem Gl.words {l : List Int} {e : Eg} (h : Gl l e) : e.es.words = l := by
 obtain ⟨_, _, a3, _, _, a6⟩ := h.t0
 obtain ⟨_, _, b3, _, _, b6⟩ := h.t1
 obtain ⟨_, _, c3, _, _, c6⟩ := h.t2
 have hs : (if e.sat then (1 : Int) else 0) = l.getD 37 0 := by
  rw [h.sa]
  rcases h.last with h | h <;> rw [h] <;> rfl
 refine Eq.trans ?_ (Jb h.len).symm
 show ((([e.q0, e.q1, e.q2, e.q3] ++ ((e.t0.x ++ e.t0.p.take 3) ++ [e.t0.p.getD 4 0, e.t0.p.getD 5 0, e.t0.p.getD 8 0])) ++ ((e.t1.x ++ e.t1.p.take 3) ++ [e.t1.p.getD 4 0, e.t1.p.getD 5 0, e.t1.p.getD 8 0])) ++ ((e.t2.x ++ e.t2.p.take 3) ++ [e.t2.p.getD 4 0, e.t2.p.getD 5 0, e.t2.p.getD 8 0])) ++ [e.steps, e.dP, e.f0, e.f1, e.f2, e.f3, if e.sat then 1 else 0] = _
 rw [hs, a3, a6, b3, b6, c3, c6, h.q0, h.q1, h.q2, h.q3, h.st, h.co, h.f0, h.f1, h.f2, h.f3]
 rfl
theorem Jl {w : World} {base : Nat} {A : Option Addr} {n c : Nat} {l : List Int} (h : uG w base (.slice A n c) l) : Rd w A l := by
 have h2 : Kd.R (Kd.int .i64) 2 w base (fun _ => True) (.slice A n c) l := Kd.wH (enc := I) h (fun _ _ => trivial)
 obtain ⟨A', c', e, _, hr⟩ := Kd.rP h2
 injection e with e1 _ _
 subst e1
 exact hr
theorem CY (l : List Int) (A : Option Addr) (c : Nat) (w : World) (hl : l.length ≤ 100 → Rd w A l) :
 Calls Try.prog 6 #[.slice A l.length c] w fun x w' => x = .returned (.bool true) ∧ Below w.heap.size w w' := by
 have HL0 := Lib.hid hl
 clear hl
 go_enter Try.func6, Try.ntmps6
 go_wp2_with fail
 refine (yZ _).mono ?_
 rintro x w1 ⟨rfl, hb⟩
 have B1 := Lib.hid hb
 clear hb
 by_cases h : l.length ≤ 100
 case neg =>
  have d0 : decide ((100 : Int) < (l.length : Int)) = true := decide_eq_true (by omega)
  go_wp2
  exact bodyPost_ret (results_tmp rfl _ _ _) rfl ⟨rfl, B1.out⟩
 have d0 : decide ((100 : Int) < (l.length : Int)) = false := decide_eq_false (by omega)
 have HL := Lib.hid (HL0.out h)
 have Kw := Lib.hid h
 clear h HL0
 go_wp2_with fail
 refine (zU l A c w1 (HL.out.below B1.out) Kw.out).mono ?_
 rintro x w2 ⟨hx, hb⟩
 have B2 : Hid (Below w.heap.size w w2) := Lib.hid (B1.out.trans (hb.mono B1.out.size))
 clear hb B1 d0
 rcases hx with ⟨e, rfl, hof, hrt, hok⟩ | ⟨rfl, _⟩
 case inr =>
  have i37 : Hid ((Try.prog.info? 37).map (·.size) = some zE.size) := Lib.hid (by kernel_rfl)
  have one : Hid (zE.all (·.oneCell') = true) := Lib.hid (by kernel_rfl)
  have TN := Lib.hid (G9 w2 #[.int .i64 0, .int .i64 0, .int .i64 0, .int .i64 0, .int .i64 0, .int .i64 0, .slice none 0 0, .int .i64 0, .int .i64 0, .slice none 0 0, .int .i64 0, .int .i64 0, .slice none 0 0, .int .i64 0, .int .i64 0, .slice none 0 0, .int .i64 0, .int .i64 0, .slice none 0 0, .int .i64 0, .int .i64 0, .slice none 0 0, .int .i64 0, .int .i64 0, .int .i64 0, .int .i64 0, .int .i64 0, .int .i64 0, .bool false] zE 37 rfl)
  have TH : Hid ((w2.alloc (.cells #[.int .i64 0, .int .i64 0, .int .i64 0, .int .i64 0, .int .i64 0, .int .i64 0, .slice none 0 0, .int .i64 0, .int .i64 0, .slice none 0 0, .int .i64 0, .int .i64 0, .slice none 0 0, .int .i64 0, .int .i64 0, .slice none 0 0, .int .i64 0, .int .i64 0, .slice none 0 0, .int .i64 0, .int .i64 0, .slice none 0 0, .int .i64 0, .int .i64 0, .int .i64 0, .int .i64 0, .int .i64 0, .int .i64 0, .bool false] 37)).there w2.heap.size 0 zE.size) := Lib.hid (show (w2.alloc (.cells #[.int .i64 0, .int .i64 0, .int .i64 0, .int .i64 0, .int .i64 0, .int .i64 0, .slice none 0 0, .int .i64 0, .int .i64 0, .slice none 0 0, .int .i64 0, .int .i64 0, .slice none 0 0, .int .i64 0, .int .i64 0, .slice none 0 0, .int .i64 0, .int .i64 0, .slice none 0 0, .int .i64 0, .int .i64 0, .slice none 0 0, .int .i64 0, .int .i64 0, .int .i64 0, .int .i64 0, .int .i64 0, .int .i64 0, .bool false] 37)).there w2.heap.size 0 (#[.int .i64 0, .int .i64 0, .int .i64 0, .int .i64 0, .int .i64 0, .int .i64 0, .slice none 0 0, .int .i64 0, .int .i64 0, .slice none 0 0, .int .i64 0, .int .i64 0, .slice none 0 0, .int .i64 0, .int .i64 0, .slice none 0 0, .int .i64 0, .int .i64 0, .slice none 0 0, .int .i64 0, .int .i64 0, .slice none 0 0, .int .i64 0, .int .i64 0, .int .i64 0, .int .i64 0, .int .i64 0, .int .i64 0, .bool false] : Array Value).size from Row.there (Row.new w2 37 #[.int .i64 0, .int .i64 0, .int .i64 0, .int .i64 0, .int .i64 0, .int .i64 0, .slice none 0 0, .int .i64 0, .int .i64 0, .slice none 0 0, .int .i64 0, .int .i64 0, .slice none 0 0, .int .i64 0, .int .i64 0, .slice none 0 0, .int .i64 0, .int .i64 0, .slice none 0 0, .int .i64 0, .int .i64 0, .slice none 0 0, .int .i64 0, .int .i64 0, .int .i64 0, .int .i64 0, .int .i64 0, .int .i64 0, .bool false]))
  go_upto_region 5 with (with_reducible refine wpList_store_mid rfl 37 (.tmp 4) (.tmp 14) rfl w2.heap.size 0 zE rfl rfl TH.out i37.out one.out ?_)
  generalize (w2.alloc (.cells #[.int .i64 0, .int .i64 0, .int .i64 0, .int .i64 0, .int .i64 0, .int .i64 0, .slice none 0 0, .int .i64 0, .int .i64 0, .slice none 0 0, .int .i64 0, .int .i64 0, .slice none 0 0, .int .i64 0, .int .i64 0, .slice none 0 0, .int .i64 0, .int .i64 0, .slice none 0 0, .int .i64 0, .int .i64 0, .slice none 0 0, .int .i64 0, .int .i64 0, .int .i64 0, .int .i64 0, .int .i64 0, .int .i64 0, .bool false] 37)).setCells w2.heap.size 0 zE.toList = w3 at TN ⊢
  have RZ := Lib.hid TN.out.1
  have B3 : Hid (Below w.heap.size w w3) := Lib.hid (B2.out.trans (TN.out.2.mono B2.out.size))
  clear TN TH i37 one
  generalize w2.heap.size = z at RZ ⊢
  have LD : w3.cell? ⟨z, 22, none⟩ = some (I 0) := RZ.out.cell 22
  go_wp2
  exact bodyPost_ret (results_tmp rfl _ _ _) rfl ⟨rfl, B3.out⟩
 case inl =>
  have OF := Lib.hid hof
  have OK := Lib.hid hok
  have i37 : Hid ((Try.prog.info? 37).map (·.size) = some e.R.size) := Lib.hid (by kernel_rfl)
  have zC : Hid ((Try.prog.info? 37).map (·.size) = some e.R.toList.length) := Lib.hid (by kernel_rfl)
  have one : Hid (e.R.all (·.oneCell') = true) := Lib.hid (by kernel_rfl)
  have TN := Lib.hid (G9 w2 #[.int .i64 0, .int .i64 0, .int .i64 0, .int .i64 0, .int .i64 0, .int .i64 0, .slice none 0 0, .int .i64 0, .int .i64 0, .slice none 0 0, .int .i64 0, .int .i64 0, .slice none 0 0, .int .i64 0, .int .i64 0, .slice none 0 0, .int .i64 0, .int .i64 0, .slice none 0 0, .int .i64 0, .int .i64 0, .slice none 0 0, .int .i64 0, .int .i64 0, .int .i64 0, .int .i64 0, .int .i64 0, .int .i64 0, .bool false] e.R 37 rfl)
  have TH : Hid ((w2.alloc (.cells #[.int .i64 0, .int .i64 0, .int .i64 0, .int .i64 0, .int .i64 0, .int .i64 0, .slice none 0 0, .int .i64 0, .int .i64 0, .slice none 0 0, .int .i64 0, .int .i64 0, .slice none 0 0, .int .i64 0, .int .i64 0, .slice none 0 0, .int .i64 0, .int .i64 0, .slice none 0 0, .int .i64 0, .int .i64 0, .slice none 0 0, .int .i64 0, .int .i64 0, .int .i64 0, .int .i64 0, .int .i64 0, .int .i64 0, .bool false] 37)).there w2.heap.size 0 e.R.size) := Lib.hid (show (w2.alloc (.cells #[.int .i64 0, .int .i64 0, .int .i64 0, .int .i64 0, .int .i64 0, .int .i64 0, .slice none 0 0, .int .i64 0, .int .i64 0, .slice none 0 0, .int .i64 0, .int .i64 0, .slice none 0 0, .int .i64 0, .int .i64 0, .slice none 0 0, .int .i64 0, .int .i64 0, .slice none 0 0, .int .i64 0, .int .i64 0, .slice none 0 0, .int .i64 0, .int .i64 0, .int .i64 0, .int .i64 0, .int .i64 0, .int .i64 0, .bool false] 37)).there w2.heap.size 0 (#[.int .i64 0, .int .i64 0, .int .i64 0, .int .i64 0, .int .i64 0, .int .i64 0, .slice none 0 0, .int .i64 0, .int .i64 0, .slice none 0 0, .int .i64 0, .int .i64 0, .slice none 0 0, .int .i64 0, .int .i64 0, .slice none 0 0, .int .i64 0, .int .i64 0, .slice none 0 0, .int .i64 0, .int .i64 0, .slice none 0 0, .int .i64 0, .int .i64 0, .int .i64 0, .int .i64 0, .int .i64 0, .int .i64 0, .bool false] : Array Value).size from Row.there (Row.new w2 37 #[.int .i64 0, .int .i64 0, .int .i64 0, .int .i64 0, .int .i64 0, .int .i64 0, .slice none 0 0, .int .i64 0, .int .i64 0, .slice none 0 0, .int .i64 0, .int .i64 0, .slice none 0 0, .int .i64 0, .int .i64 0, .slice none 0 0, .int .i64 0, .int .i64 0, .slice none 0 0, .int .i64 0, .int .i64 0, .slice none 0 0, .int .i64 0, .int .i64 0, .int .i64 0, .int .i64 0, .int .i64 0, .int .i64 0, .bool false]))
  have RT := Lib.hid hrt
  clear hof hok hrt
  go_upto_region 5 with (with_reducible refine wpList_store_mid rfl 37 (.tmp 4) (.tmp 14) rfl w2.heap.size 0 e.R rfl rfl TH.out i37.out one.out ?_)
  generalize (w2.alloc (.cells #[.int .i64 0, .int .i64 0, .int .i64 0, .int .i64 0, .int .i64 0, .int .i64 0, .slice none 0 0, .int .i64 0, .int .i64 0, .slice none 0 0, .int .i64 0, .int .i64 0, .slice none 0 0, .int .i64 0, .int .i64 0, .slice none 0 0, .int .i64 0, .int .i64 0, .slice none 0 0, .int .i64 0, .int .i64 0, .slice none 0 0, .int .i64 0, .int .i64 0, .int .i64 0, .int .i64 0, .int .i64 0, .int .i64 0, .bool false] 37)).setCells w2.heap.size 0 e.R.toList = w3 at TN ⊢
  have RE := Lib.hid TN.out.1
  have B3 : Hid (Below w.heap.size w w3) := Lib.hid (B2.out.trans (TN.out.2.mono B2.out.size))
  have Yk : Hid (∀ j, j < 3 → I9 w3 (e.t j)) := Lib.hid (fun j hj => (RT.out j hj).below TN.out.2)
  have RL := Lib.hid (Row.whole RE.out)
  clear TN TH i37 one RT B2
  generalize w2.heap.size = z at RE RL ⊢
  go_wp2_with (with_reducible refine OG.iD rfl 37 (.tmp 4) rfl z 0 rfl e.R.toList _ RL.out Try.underlying37 rfl zC.out ?_)
  refine (oP e _ Yk.out).mono ?_
  rintro x w4 ⟨rfl, hb⟩
  rw [OK.out]
  have B4 : Hid (Below w.heap.size w w4) := Lib.hid (B3.out.trans (hb.mono B3.out.size))
  have RL4 := Lib.hid (Row.whole (RE.out.below hb RE.out.lt))
  have RT4 : Hid (∀ j, j < 3 → I9 w4 (e.t j)) := Lib.hid (fun j hj => (Yk.out j hj).below hb)
  clear hb RE RL Yk B3
  have WC : Hid (Calls Try.prog 22 #[.agg e.R] w4 fun x w' => ∃ A c, x = .returned (.slice A 38 c) ∧ Rd w' A l ∧ Below w4.heap.size w4 w') := Lib.hid (by
   rw [OF.out.row]
   refine (tq e.es w4 (fun j hj => ?_) (fun j hj => ?_)).mono ?_
   · have h := RT4.out j hj
     obtain rfl | rfl | rfl : j = 0 ∨ j = 1 ∨ j = 2 := by omega
     all_goals exact ⟨h.x, h.xc, h.p, h.pd⟩
   · obtain rfl | rfl | rfl : j = 0 ∨ j = 1 ∨ j = 2 := by omega
     · exact ⟨by show e.t0.x.length = 3; rw [OF.out.t0.2.2.1]; rfl, by show e.t0.p.length = 9; rw [OF.out.t0.2.2.2.2.2]; rfl⟩
     · exact ⟨by show e.t1.x.length = 3; rw [OF.out.t1.2.2.1]; rfl, by show e.t1.p.length = 9; rw [OF.out.t1.2.2.2.2.2]; rfl⟩
     · exact ⟨by show e.t2.x.length = 3; rw [OF.out.t2.2.2.1]; rfl, by show e.t2.p.length = 9; rw [OF.out.t2.2.2.2.2.2]; rfl⟩
   · rintro x w' ⟨A, c, rfl, ho, hb⟩
     rw [OF.out.words] at ho
     exact ⟨A, c, rfl, Jl ho, hb⟩)
  go_wp2_with (with_reducible refine OG.iD rfl 37 (.tmp 4) rfl z 0 rfl e.R.toList _ RL4.out Try.underlying37 rfl zC.out ?_)
  refine WC.out.mono ?_
  rintro x w5 ⟨A2, c2, rfl, hr2, hb⟩
  have B5 : Hid (Below w.heap.size w w5) := Lib.hid (B4.out.trans (hb.mono B4.out.size))
  have R2 := Lib.hid hr2
  clear hb hr2 WC RL4 RT4 B4
  have IC : Hid (Calls Try.prog 21 #[.slice A2 38 c2, .slice A l.length c] w5 fun x w' => x = .returned (.bool true) ∧ Below w5.heap.size w5 w') := Lib.hid (by
   have h := wW l l A2 A c2 c w5 R2.out (HL.out.below B5.out) (by have := Kw.out; omega)
   have e38 := OF.out.len
   rw [show (.slice A2 l.length c2 : Value) = .slice A2 38 c2 by rw [e38]] at h
   refine h.mono ?_
   rintro x w' ⟨r, rfl, hr, hb⟩
   exact ⟨by rw [hr.2 rfl], hb⟩)
  go_wp2_with fail
  refine IC.out.mono ?_
  rintro x w6 ⟨rfl, hb⟩
  have B6 : Hid (Below w.heap.size w w6) := Lib.hid (B5.out.trans (hb.mono B5.out.size))
  clear hb IC
  go_wp2
  exact bodyPost_ret (results_tmp rfl _ _ _) rfl ⟨rfl, B6.out⟩
end Go.Proofs.Ytnijhjbcjeohhaa.EE

namespace Go.Proofs.Ytnijhjbcjeohhaa.KK
open Go.ChangeShapes Go.WideShapes Go.ChangeAt Go.RowKit Go.Deep Go.Proofs.af.aF
set_option linter.unusedVariables false
set_option linter.unusedSimpArgs false
theorem yt {H : Type} {enc : TypeId × Value → H} {W : World} {base : Nat} {sp : Nat → Bool} {held : Bool} {fuel : Nat} {cs : List Value} {x : DataW H × List MemPlace} (h : DataW.trod enc Try.prog W base sp held fuel 52 cs = some x) : ∃ A c l, cs = [.slice A (l : List Int).length c] ∧ l.length ≤ c ∧ Rd W A l := by
 rcases open_slice Try.underlying52 h with ⟨rfl, _⟩ | ⟨a, len, cap, m, n, D, Pl, rfl, hb, hl, hm, hmm, hx, hi⟩
 · exact ⟨none, 0, [], rfl, by simp, Rd.nil _ _⟩
 · have hle : len ≤ m := by rw [hmm]; split <;> omega
   have key : ∀ i, i < len → ∃ q : Int, W.cell? ((a.add (i * 1)).add 0) = some (I q) := by
    intro i hil
    obtain ⟨cs', hc, ht⟩ := hi i (by omega)
    rw [k2] at hc
    obtain ⟨hlen, _, hat⟩ := World.cells?_some hc
    obtain ⟨q, e0, _, _⟩ := DataW.trod_int Try.underlying2 ht
    subst e0
    exact ⟨q, hat 0 (by simp)⟩
   obtain ⟨l, hlen, hk⟩ := uf key
   subst hlen
   refine ⟨some a, cap, l, rfl, hl, rfl, (by unfold maxLen at hm; show l.length ≤ _; omega), fun hne => ⟨a, rfl, fun j p hj => ⟨[I p], rfl, rfl, fun i u hi => ?_⟩⟩⟩
   match i, hi with
   | 0, hi =>
     simp at hi
     subst hi
     have := hk j p hj
     have h1 : (Kd.int .i64).sz = 1 := rfl
     rw [h1]
     simpa [Addr.add] using this
end Go.Proofs.Ytnijhjbcjeohhaa.KK

