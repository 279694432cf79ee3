import Derived.Test.YtcfobekkchhbbaaGreatY12
import Derived.Test.YtcfobekkchhbbaaGreatY10
import Derived.Test.YtcfobekkchhbbaaGreatY5
import Derived.Test.YtcfobekkchhbbaaGreatY9
/- Joined and thinned by a program of this session's own (wip/pack2.py) out of its texts (wip/ of its repo); parts were laid by its own program (wip/print-patch.py over the kit's print) out of the translation; Lean checks all. -/
set_option maxRecDepth 100000
set_option maxHeartbeats 4000000
namespace Go.Proofs.YtcfobekkchhbbaaGreat.EE
open Go.RowKit Go.Proofs.YtcfobekkchhbbaaGreat.KK Go.Proofs.YtcfobekkchhbbaaGreat.OG Go.Proofs.af.aQ Go.Proofs.af.a_ Go.Proofs.af.bg
set_option linter.unusedVariables false
set_option linter.unusedSimpArgs false
def Apt (t : Tr) (b : Nat) : Prop := (∀ ad, t.A = some ad → ad.block ≠ b) ∧ (∀ ad, t.B = some ad → ad.block ≠ b)
theorem Ro.apt {n b : Nat} {w : World} {t : Tr} (h : Ro n w t) (hb : b < n) : Apt t b := ⟨fun ad e => by have := h.na ad e; omega, fun ad e => by have := h.nb ad e; omega⟩
theorem Rw.apt {w : World} {t : Tr} (h : Rw w t) (hx : 0 < t.x.length) (hp : 0 < t.p.length) {b : Nat} (hb : w.heap.size ≤ b) : Apt t b :=
 ⟨fun ad e => by have := PR.Rd.blk h.x ad e hx; omega, fun ad e => by have := PR.Rd.blk h.p ad e hp; omega⟩
theorem Rw.cells {w : World} {t : Tr} (h : Rw w t) {b o : Nat} (ha : Apt t b) (vs : List Value) : Rw (w.setCells b o vs) t :=
 ⟨Rd.gr h.x (nO vs o w) ha.1, h.xc, Rd.gr h.p (nO vs o w) ha.2, h.pd⟩
def zJ (on o7 o8 : Bool) (N : En) (e : Es) (b7 b8 : Nat) (w : World) : Prop := on = true → e.nu = N ∧ ∀ j, j < 3 → Rw w (e.ax j) ∧ (o7 = true → Apt (e.ax j) b7) ∧ (o8 = true → Apt (e.ax j) b8)
section
variable {on o7 o8 : Bool} {N : En} {e : Es} {b7 b8 : Nat} {w w' : World}
theorem zJ.off : zJ false o7 o8 N e b7 b8 w := fun h => by cases h
theorem zJ.below (h : zJ on o7 o8 N e b7 b8 w) (hb : Below w.heap.size w w') : zJ on o7 o8 N e b7 b8 w' := fun k => ⟨(h k).1, fun j hj => ⟨((h k).2 j hj).1.below hb, ((h k).2 j hj).2⟩⟩
theorem zJ.aeo (G : Gd N) (h : zJ on o7 o8 N e b7 b8 w) (o : Obj) : zJ on true o8 N e w.heap.size b8 (w.alloc o) := fun k => ⟨(h k).1, fun j hj => by
 have hj' := (h k).2 j hj
 refine ⟨hj'.1.below ((Below.refl _ _).alloc (Nat.le_refl _) o), fun _ => hj'.1.apt ?_ ?_ (Nat.le_refl _), hj'.2.2⟩
 · rw [DJ, (h k).1, G.lx j hj]; decide
 · rw [FM, (h k).1, G.lp j hj]; decide⟩
theorem zJ.aen (G : Gd N) (h : zJ on o7 o8 N e b7 b8 w) (o : Obj) : zJ on o7 true N e b7 w.heap.size (w.alloc o) := fun k => ⟨(h k).1, fun j hj => by
 have hj' := (h k).2 j hj
 refine ⟨hj'.1.below ((Below.refl _ _).alloc (Nat.le_refl _) o), hj'.2.1, fun _ => hj'.1.apt ?_ ?_ (Nat.le_refl _)⟩
 · rw [DJ, (h k).1, G.lx j hj]; decide
 · rw [FM, (h k).1, G.lp j hj]; decide⟩
theorem zJ.Xy (h : zJ on true o8 N e b7 b8 w) (o : Nat) (vs : List Value) : zJ on true o8 N e b7 b8 (w.setCells b7 o vs) := fun k => ⟨(h k).1, fun j hj => ⟨((h k).2 j hj).1.cells (((h k).2 j hj).2.1 rfl) vs, ((h k).2 j hj).2⟩⟩
theorem zJ.Xx (h : zJ on o7 true N e b7 b8 w) (o : Nat) (vs : List Value) : zJ on o7 true N e b7 b8 (w.setCells b8 o vs) := fun k => ⟨(h k).1, fun j hj => ⟨((h k).2 j hj).1.cells (((h k).2 j hj).2.2 rfl) vs, ((h k).2 j hj).2⟩⟩
theorem zJ.mk (he : e.nu = N) (hr : ∀ j, j < 3 → Ro w.heap.size w' (e.ax j)) (h7 : o7 = true → b7 < w.heap.size) (h8 : o8 = true → b8 < w.heap.size) : zJ on o7 o8 N e b7 b8 w' :=
 fun _ => ⟨he, fun j hj => ⟨(hr j hj).rw, fun k => (hr j hj).apt (h7 k), fun k => (hr j hj).apt (h8 k)⟩⟩
end
theorem vX.full {n b : Nat} {w : World} {t : TypeId} {cs : Array Value} (h : vX n w true b t cs) (D : Array Value) (hD : D.size = cs.size) : vX n (w.setCells b 0 D.toList) true b t D := fun _ => ⟨h.le, Row.full h.row D hD⟩
end Go.Proofs.YtcfobekkchhbbaaGreat.EE

namespace Go.Proofs.YtcfobekkchhbbaaGreat.EE
open Go.RowKit Go.Proofs.YtcfobekkchhbbaaGreat.KK Go.Proofs.af.aQ Go.Proofs.af.a_ Go.Proofs.af.bg
set_option linter.unusedVariables false
set_option linter.unusedSimpArgs false
def FU (t : Nat → Tr) : Es := ⟨16777216, 0, 0, 0, t 0, t 1, t 2, 0, 0, 0, 0, 0, 0, false⟩
theorem WZ (t : Nat → Tr) (h : ∀ j, j < 3 → (t j).x = [0, 0, 0] ∧ (t j).p = sJ) : qF t 3 = (FU t).R := by
 have l9 : sJ.length = 9 := PR.kN _
 simp [qF, FU, Es.R, Es.row, h 0 (by decide), h 1 (by decide), h 2 (by decide), l9]
theorem TQ (t : Nat → Tr) (h : ∀ j, j < 3 → (t j).x = [0, 0, 0] ∧ (t j).p = sJ) : (FU t).nu = en0 := by
 simp [FU, Es.nu, en0, h 0 (by decide), h 1 (by decide), h 2 (by decide)]
theorem Oq : PR.gQ 3 1 [0, 0, 0] 3 3 sJ := by decide +kernel
theorem KD (t : Nat → Tr) : (FU t).right = true := by rfl
def zE : Array Value := #[I 0, I 0, I 0, I 0, I 0, I 0, .slice none 0 0, I 0, I 0, .slice none 0 0, I 0, I 0, .slice none 0 0, I 0, I 0, .slice none 0 0, I 0, I 0, .slice none 0 0, I 0, I 0, .slice none 0 0, I 0, I 0, I 0, I 0, I 0, I 0, .bool false]
theorem Hq : Gd (PI.cnt true) := KY.ahead.cnt true
theorem Iq (w : World) : Calls Tryz.prog 8 #[] w fun x w' => x = .returned (.bool true) ∧ Below w.heap.size w w' := by
 have HC : Hid (∀ w', Calls Tryz.prog 32 #[] w' fun x w'' => x = .returned (.agg V8.row) ∧ Below w'.heap.size w' w'') := Lib.hid (fun w' => PQ.mZ.calls _ _ _ _ _ _ w' rfl)
 go_enter Tryz.func8, Tryz.ntmps8
 go_wp2_with fail
 refine (HC.out _).mono ?_
 rintro x w1 ⟨rfl, hb⟩
 have B1 := Lib.hid hb
 clear hb
 go_wp2_with fail
 refine (KA V8 _ (by decide +kernel)).mono ?_
 rintro x w2 ⟨t, rfl, ht, hb⟩
 rw [WZ t (fun j hj => ⟨(ht j hj).1, (ht j hj).2.1⟩)]
 have HE := Lib.hid (TQ t (fun j hj => ⟨(ht j hj).1, (ht j hj).2.1⟩))
 have HT := Lib.hid ht
 have B2 := Lib.hid hb
 clear ht hb
 have ER := Lib.hid (KD t)
 have AX : Hid (∀ j, j < 3 → Rw w2 ((FU t).ax j)) := Lib.hid (fun j hj => by
  obtain rfl | rfl | rfl : j = 0 ∨ j = 1 ∨ j = 2 := by omega
  all_goals exact (HT.out _ (by omega)).2.2.rw)
 have XP : Hid (∀ j, j < 3 → ((FU t).ax j).x = [0, 0, 0] ∧ ((FU t).ax j).p = sJ) := Lib.hid (fun j hj => by
  obtain rfl | rfl | rfl : j = 0 ∨ j = 1 ∨ j = 2 := by omega
  all_goals exact ⟨(HT.out _ (by omega)).1, (HT.out _ (by omega)).2.1⟩)
 clear HT
 generalize FU t = e at HE ER AX XP ⊢
 have ST : Hid ((w2.alloc (.cells #[.int .i64 0, .int .i64 0, .int .i64 0, .int .i64 0, .int .i64 0, .int .i64 0, .slice none 0 0, .int .i64 0, .int .i64 0, .slice none 0 0, .int .i64 0, .int .i64 0, .slice none 0 0, .int .i64 0, .int .i64 0, .slice none 0 0, .int .i64 0, .int .i64 0, .slice none 0 0, .int .i64 0, .int .i64 0, .slice none 0 0, .int .i64 0, .int .i64 0, .int .i64 0, .int .i64 0, .int .i64 0, .int .i64 0, .bool false] 35)).there w2.heap.size 0 e.R.size) := Lib.hid (by have h := Row.there (Row.new w2 35 #[.int .i64 0, .int .i64 0, .int .i64 0, .int .i64 0, .int .i64 0, .int .i64 0, .slice none 0 0, .int .i64 0, .int .i64 0, .slice none 0 0, .int .i64 0, .int .i64 0, .slice none 0 0, .int .i64 0, .int .i64 0, .slice none 0 0, .int .i64 0, .int .i64 0, .slice none 0 0, .int .i64 0, .int .i64 0, .slice none 0 0, .int .i64 0, .int .i64 0, .int .i64 0, .int .i64 0, .int .i64 0, .int .i64 0, .bool false]); exact h)
 have i37 : Hid ((Tryz.prog.info? 35).map (·.size) = some e.R.size) := Lib.hid (by kernel_rfl)
 have one : Hid (e.R.all (·.oneCell') = true) := Lib.hid (by kernel_rfl)
 go_upto_region 2 with (with_reducible refine wpList_store_mid rfl 35 (.tmp 1) (.tmp 8) rfl w2.heap.size 0 e.R rfl rfl ST.out i37.out one.out ?_)
 have RE : Hid (Row ((w2.alloc (.cells #[.int .i64 0, .int .i64 0, .int .i64 0, .int .i64 0, .int .i64 0, .int .i64 0, .slice none 0 0, .int .i64 0, .int .i64 0, .slice none 0 0, .int .i64 0, .int .i64 0, .slice none 0 0, .int .i64 0, .int .i64 0, .slice none 0 0, .int .i64 0, .int .i64 0, .slice none 0 0, .int .i64 0, .int .i64 0, .slice none 0 0, .int .i64 0, .int .i64 0, .int .i64 0, .int .i64 0, .int .i64 0, .int .i64 0, .bool false] 35)).setCells w2.heap.size 0 e.R.toList) w2.heap.size 35 e.R) := Lib.hid (Row.full (Row.new w2 35 #[.int .i64 0, .int .i64 0, .int .i64 0, .int .i64 0, .int .i64 0, .int .i64 0, .slice none 0 0, .int .i64 0, .int .i64 0, .slice none 0 0, .int .i64 0, .int .i64 0, .slice none 0 0, .int .i64 0, .int .i64 0, .slice none 0 0, .int .i64 0, .int .i64 0, .slice none 0 0, .int .i64 0, .int .i64 0, .slice none 0 0, .int .i64 0, .int .i64 0, .int .i64 0, .int .i64 0, .int .i64 0, .int .i64 0, .bool false]) e.R rfl)
 have B3 : Hid (Below w2.heap.size w2 ((w2.alloc (.cells #[.int .i64 0, .int .i64 0, .int .i64 0, .int .i64 0, .int .i64 0, .int .i64 0, .slice none 0 0, .int .i64 0, .int .i64 0, .slice none 0 0, .int .i64 0, .int .i64 0, .slice none 0 0, .int .i64 0, .int .i64 0, .slice none 0 0, .int .i64 0, .int .i64 0, .slice none 0 0, .int .i64 0, .int .i64 0, .slice none 0 0, .int .i64 0, .int .i64 0, .int .i64 0, .int .i64 0, .int .i64 0, .int .i64 0, .bool false] 35)).setCells w2.heap.size 0 e.R.toList)) := Lib.hid (KK.dA _ _ _ ((Below.refl _ _).alloc (Nat.le_refl _) _) (Nat.le_refl _))
 clear ST one
 generalize (w2.alloc (.cells #[.int .i64 0, .int .i64 0, .int .i64 0, .int .i64 0, .int .i64 0, .int .i64 0, .slice none 0 0, .int .i64 0, .int .i64 0, .slice none 0 0, .int .i64 0, .int .i64 0, .slice none 0 0, .int .i64 0, .int .i64 0, .slice none 0 0, .int .i64 0, .int .i64 0, .slice none 0 0, .int .i64 0, .int .i64 0, .slice none 0 0, .int .i64 0, .int .i64 0, .int .i64 0, .int .i64 0, .int .i64 0, .int .i64 0, .bool false] 35)).setCells w2.heap.size 0 e.R.toList = w3 at RE B3 ⊢
 have RL := Lib.hid (Row.whole RE.out)
 have Qn : Hid ((Tryz.prog.info? 35).map (·.size) = some e.R.toList.length) := Lib.hid (by kernel_rfl)
 go_wp2_with (with_reducible refine OG.iE rfl 35 (.tmp 1) rfl w2.heap.size 0 rfl e.R.toList _ RL.out Tryz.underlying35 rfl Qn.out ?_)
 have RR : Hid (Calls Tryz.prog 15 #[.agg e.R] w3 fun x w' => x = .returned (.bool true) ∧ Below w3.heap.size w3 w') := Lib.hid (by
  have hw : ∀ j, j < 3 → Rw w3 (e.ax j) := fun j hj => AX.out j hj |>.below B3.out
  have hh := NS e w3 hw (fun j hj => by rw [(XP.out j hj).1, (XP.out j hj).2]; exact ⟨rfl, PR.kN _⟩) (fun j hj => by rw [(XP.out j hj).1, (XP.out j hj).2]; exact Oq)
  rw [ER.out] at hh
  exact hh)
 refine RR.out.mono ?_
 rintro x w4 ⟨rfl, hb⟩
 have H16 : Hid (∀ (e : Es) (w : World), e.nu = en0 → (∀ j, j < 3 → Rw w (e.ax j)) → Calls Tryz.prog 22 #[.agg V8.row, .agg e.R, .agg sm0.R] w fun x w' => ∃ e' : Es, e'.nu = PI.cnt true ∧ x = .returned (.tuple #[.agg e'.R, .agg #[I 0, I 0, I 0]]) ∧ (∀ j, j < 3 → Ro w.heap.size w' (e'.ax j)) ∧ Below w.heap.size w w') := Lib.hid (fun e w he hr => by
  refine (JP e w he hr).mono ?_
  rintro x w' ⟨e', h1, rfl, h3⟩
  exact ⟨e', h1, by rw [show (PI.cnt true).x0 = _ from MI.1, show (PI.cnt true).x1 = _ from MI.2.1, show (PI.cnt true).x2 = _ from MI.2.2.1]; rfl, h3⟩)
 have B4 := Lib.hid (B3.out.trans (hb.mono B3.out.size))
 have RE4 := Lib.hid (RE.out.below hb RE.out.lt)
 clear hb RR RE RL B3
 go_upto_region 4 with fail
 refine OG.wR (by kernel_rfl) (fun l a w => ∃ e1 : Es, ∃ b3 : Nat, ∃ b4 : Nat, a = { tmps := List.toArray (Value.bool false :: Value.pointer (some ⟨w2.heap.size, 0, none⟩) :: I 0 :: (bif l 7 then .pointer (some ⟨b3, 0, none⟩) else undef) :: (bif l 8 then .pointer (some ⟨b4, 0, none⟩) else undef) :: Value.tuple #[Value.agg e.R, I 0] :: Value.agg V8.row :: Value.tuple #[Value.agg e.R, I 0] :: Value.agg e.R :: I 0 :: I 0 :: Value.bool false :: Value.bool false :: Value.agg e.R :: Value.bool true :: Value.bool false :: Value.bool false :: (bif l 4 then .tuple #[.agg e1.R, .agg #[I 0, I 0, I 0]] else undef) :: (bif l 0 then .agg V8.row else undef) :: (bif l 1 then .agg e.R else undef) :: (bif l 2 then .agg sm0.R else undef) :: (bif l 3 then .tuple #[.agg e1.R, .agg #[I 0, I 0, I 0]] else undef) :: (bif l 5 then .agg e1.R else undef) :: (bif l 6 then .agg #[I 0, I 0, I 0] else undef) :: undef :: undef :: undef :: undef :: undef :: undef :: undef :: undef :: undef :: undef :: undef :: undef :: undef :: undef :: undef :: undef :: undef :: undef :: undef :: undef :: undef :: undef :: undef :: undef :: []), defers := [] } ∧ (Below w4.heap.size w4 w) ∧ (OG.vX w4.heap.size w (l 7) b3 35 (bif l 9 then e1.R else zE)) ∧ (OG.vX w4.heap.size w (l 8) b4 53 #[I 0, I 0, I 0]) ∧ (l 7 = true → l 8 = true → b3 ≠ b4) ∧ (zJ (l 3) (l 7) (l 8) (PI.cnt true) e1 b3 b4 w)) (by kernel_rfl) ?s0 ?ss ?se
 case s0 => exact ⟨e, 0, 0, rfl, (Below.refl _ _).drew, OG.vX.off, OG.vX.off, (fun h => by cases h), zJ.off⟩
 case ss =>
  refine OG.Steps.cons rfl (fun l a w K hK hJ hcl h0 hd => ?_) (OG.Steps.cons rfl (fun l a w K hK hJ hcl h0 hd => ?_) (OG.Steps.cons rfl (fun l a w K hK hJ hcl h0 hd => ?_) (OG.Steps.cons rfl (fun l a w K hK hJ hcl h0 hd => ?_) (OG.Steps.cons rfl (fun l a w K hK hJ hcl h0 hd => ?_) (OG.Steps.cons rfl (fun l a w K hK hJ hcl h0 hd => ?_) (OG.Steps.cons rfl (fun l a w K hK hJ hcl h0 hd => ?_) (OG.Steps.cons rfl (fun l a w K hK hJ hcl h0 hd => ?_) (OG.Steps.cons rfl (fun l a w K hK hJ hcl h0 hd => ?_) (OG.Steps.cons rfl (fun l a w K hK hJ hcl h0 hd => ?_) (OG.Steps.cons rfl (fun l a w K hK hJ hcl h0 hd => ?_) OG.Steps.nil))))))))))
  · obtain ⟨e1, b3, b4, rfl, hP0, hP1, hP2, hP3, sS⟩ := hJ
    have HJ := Lib.hid (And.intro hP0 (And.intro hP1 (And.intro hP2 (And.intro hP3 (sS)))))
    clear hP0 hP1 hP2 hP3 sS hd hcl h0
    go_simp
    refine (HC.out _).mono ?_
    rintro x w' ⟨rfl, hb⟩
    exact hK.out _ _ ⟨e1, b3, b4, (rfl), (HJ.out.1.trans (hb.mono HJ.out.1.size)), (HJ.out.2.1.below hb), (HJ.out.2.2.1.below hb), (HJ.out.2.2.2.1), (HJ.out.2.2.2.2.below hb)⟩
  · obtain ⟨e1, b3, b4, rfl, hP0, hP1, hP2, hP3, sS⟩ := hJ
    have HJ := Lib.hid (And.intro hP0 (And.intro hP1 (And.intro hP2 (And.intro hP3 (sS)))))
    clear hP0 hP1 hP2 hP3 sS hd hcl h0
    refine wp_load_mid 35 (.tmp 1) rfl w2.heap.size 0 rfl e.R.toList _ (Row.whole (RE4.out.below HJ.out.1 RE4.out.lt)) Tryz.underlying35 rfl Qn.out ?_
    exact hK.out _ _ ⟨e1, b3, b4, (rfl), (HJ.out.1), (HJ.out.2.1), (HJ.out.2.2.1), (HJ.out.2.2.2.1), (HJ.out.2.2.2.2)⟩
  · obtain ⟨e1, b3, b4, rfl, hP0, hP1, hP2, hP3, sS⟩ := hJ
    have HJ := Lib.hid (And.intro hP0 (And.intro hP1 (And.intro hP2 (And.intro hP3 (sS)))))
    clear hP0 hP1 hP2 hP3 sS hd hcl h0
    go_simp
    exact hK.out _ _ ⟨e1, b3, b4, (rfl), (HJ.out.1), (HJ.out.2.1), (HJ.out.2.2.1), (HJ.out.2.2.2.1), (HJ.out.2.2.2.2)⟩
  · obtain ⟨e1, b3, b4, rfl, hP0, hP1, hP2, hP3, sS⟩ := hJ
    have d0 := hd.get 0 (by rfl)
    have d1 := hd.get 1 (by rfl)
    have d2 := hd.get 2 (by rfl)
    have f4 := hcl.off 4 3 (by rfl) h0
    have f5 := hcl.off 5 4 (by rfl) f4
    have f9 := hcl.off 9 3 (by rfl) h0
    have HJ := Lib.hid (And.intro hP0 (And.intro hP1 (And.intro hP2 (And.intro hP3 (sS)))))
    clear hP0 hP1 hP2 hP3 sS hd hcl h0
    go_simp
    refine (H16.out _ w HE.out (fun j hj => ((AX.out j hj).below B4.out).below HJ.out.1)).mono ?_
    rintro x w' ⟨e', hn', rfl, hr', hb⟩
    exact hK.out _ _ ⟨e', b3, b4, (by simp only [OG.upd, d0, d1, d2, f4, f5, f9]; rfl), (HJ.out.1.trans (hb.mono HJ.out.1.size)), (by rw [show (OG.upd l 3) 9 = false from f9]; have h1 := HJ.out.2.1; rw [f9] at h1; exact h1.below hb), (HJ.out.2.2.1.below hb), (HJ.out.2.2.2.1), (zJ.mk hn' hr' HJ.out.2.1.bound HJ.out.2.2.1.bound)⟩
  · obtain ⟨e1, b3, b4, rfl, hP0, hP1, hP2, hP3, sS⟩ := hJ
    have d3 := hd.get 3 (by rfl)
    have HJ := Lib.hid (And.intro hP0 (And.intro hP1 (And.intro hP2 (And.intro hP3 (sS)))))
    clear hP0 hP1 hP2 hP3 sS hd hcl h0
    go_simp
    exact hK.out _ _ ⟨e1, b3, b4, (by simp only [OG.upd, d3]; rfl), (HJ.out.1), (HJ.out.2.1), (HJ.out.2.2.1), (HJ.out.2.2.2.1), (HJ.out.2.2.2.2)⟩
  · obtain ⟨e1, b3, b4, rfl, hP0, hP1, hP2, hP3, sS⟩ := hJ
    have d4 := hd.get 4 (by rfl)
    have HJ := Lib.hid (And.intro hP0 (And.intro hP1 (And.intro hP2 (And.intro hP3 (sS)))))
    clear hP0 hP1 hP2 hP3 sS hd hcl h0
    go_simp
    exact hK.out _ _ ⟨e1, b3, b4, (by simp only [OG.upd, d4]; rfl), (HJ.out.1), (HJ.out.2.1), (HJ.out.2.2.1), (HJ.out.2.2.2.1), (HJ.out.2.2.2.2)⟩
  · obtain ⟨e1, b3, b4, rfl, hP0, hP1, hP2, hP3, sS⟩ := hJ
    have d4 := hd.get 4 (by rfl)
    have HJ := Lib.hid (And.intro hP0 (And.intro hP1 (And.intro hP2 (And.intro hP3 (sS)))))
    clear hP0 hP1 hP2 hP3 sS hd hcl h0
    go_simp
    exact hK.out _ _ ⟨e1, b3, b4, (by simp only [OG.upd, d4]; rfl), (HJ.out.1), (HJ.out.2.1), (HJ.out.2.2.1), (HJ.out.2.2.2.1), (HJ.out.2.2.2.2)⟩
  · obtain ⟨e1, b3, b4, rfl, hP0, hP1, hP2, hP3, sS⟩ := hJ
    have f9 := hcl.off 9 7 (by rfl) h0
    have HJ := Lib.hid (And.intro hP0 (And.intro hP1 (And.intro hP2 (And.intro hP3 (sS)))))
    clear hP0 hP1 hP2 hP3 sS hd hcl h0
    go_simp
    exact hK.out _ _ ⟨e1, w.heap.size, b4, (rfl), (HJ.out.1.alloc HJ.out.1.size _), (by rw [show (OG.upd l 7) 9 = false from f9]; exact OG.vX.new HJ.out.1.size), (HJ.out.2.2.1.alloc _), (fun _ e8 => Ne.symm (HJ.out.2.2.1.ne e8)), (zJ.aeo Hq HJ.out.2.2.2.2 _)⟩
  · obtain ⟨e1, b3, b4, rfl, hP0, hP1, hP2, hP3, sS⟩ := hJ
    have HJ := Lib.hid (And.intro hP0 (And.intro hP1 (And.intro hP2 (And.intro hP3 (sS)))))
    clear hP0 hP1 hP2 hP3 sS hd hcl h0
    go_simp
    exact hK.out _ _ ⟨e1, b3, w.heap.size, (rfl), (HJ.out.1.alloc HJ.out.1.size _), (HJ.out.2.1.alloc _), (OG.vX.new HJ.out.1.size), (fun e7 _ => HJ.out.2.1.ne e7), (zJ.aen Hq HJ.out.2.2.2.2 _)⟩
  · obtain ⟨e1, b3, b4, rfl, hP0, hP1, hP2, hP3, sS⟩ := hJ
    have d5 := hd.get 5 (by rfl)
    have d7 := hd.get 7 (by rfl)
    have HJ := Lib.hid (And.intro hP0 (And.intro hP1 (And.intro hP2 (And.intro hP3 (sS)))))
    clear hP0 hP1 hP2 hP3 sS hd hcl h0
    have h1 := HJ.out.2.1
    have h4 := HJ.out.2.2.2.2
    rw [d7] at h1 h4
    refine wp_store_mid 35 (.tmp 3) (.tmp 22) rfl b3 0 e1.R (by show cond (l 7) _ _ = _; rw [d7]; rfl) (by show cond (l 5) _ _ = _; rw [d5]; rfl) (by have := Row.there h1.row; cases h9 : l 9 <;> rw [h9] at this <;> exact this) (by kernel_rfl) (by kernel_rfl) ?_
    exact hK.out _ _ ⟨e1, b3, b4, (by simp only [OG.upd, d5, d7]; rfl), (KK.dA _ _ _ HJ.out.1 h1.le), (by show OG.vX _ _ (l 7) _ _ e1.R; rw [d7]; exact vX.full h1 e1.R (by cases l 9 <;> rfl)), (HJ.out.2.2.1.cells (fun k => Ne.symm (HJ.out.2.2.2.1 d7 k)) _), (HJ.out.2.2.2.1), (by show zJ (l 3) (l 7) (l 8) _ _ _ _ _; rw [d7]; exact h4.Xy _ _)⟩
  · obtain ⟨e1, b3, b4, rfl, hP0, hP1, hP2, hP3, sS⟩ := hJ
    have d6 := hd.get 6 (by rfl)
    have d8 := hd.get 8 (by rfl)
    have HJ := Lib.hid (And.intro hP0 (And.intro hP1 (And.intro hP2 (And.intro hP3 (sS)))))
    clear hP0 hP1 hP2 hP3 sS hd hcl h0
    have h2 := HJ.out.2.2.1
    have h4 := HJ.out.2.2.2.2
    rw [d8] at h2 h4
    refine wp_store_mid 53 (.tmp 4) (.tmp 23) rfl b4 0 #[I 0, I 0, I 0] (by show cond (l 8) _ _ = _; rw [d8]; rfl) (by show cond (l 6) _ _ = _; rw [d6]; rfl) (Row.there h2.row) (by kernel_rfl) (by kernel_rfl) ?_
    exact hK.out _ _ ⟨e1, b3, b4, (by simp only [OG.upd, d6, d8]; rfl), (KK.dA _ _ _ HJ.out.1 h2.le), (HJ.out.2.1.cells (fun k => HJ.out.2.2.2.1 k d8) _), (by show OG.vX _ _ (l 8) _ _ _; rw [d8]; exact vX.full h2 #[I 0, I 0, I 0] rfl), (HJ.out.2.2.2.1), (by show zJ (l 3) (l 7) (l 8) _ _ _ _ _; rw [d8]; exact h4.Xx _ _)⟩
 case se =>
  intro l a w hJ he
  obtain ⟨e1, b3, b4, rfl, hP0, hP1, hP2, hP3, sS⟩ := hJ
  rw [he 0 (by decide), he 1 (by decide), he 2 (by decide), he 3 (by decide), he 4 (by decide), he 5 (by decide), he 6 (by decide), he 7 (by decide), he 8 (by decide)]
  rw [he 7 (by decide), he 9 (by decide)] at hP1
  rw [he 8 (by decide)] at hP2
  rw [he 3 (by decide), he 7 (by decide), he 8 (by decide)] at sS
  clear he
  have B5 := Lib.hid (B4.out.trans (hP0.mono B4.out.size))
  have R3 : Hid (Row w b3 35 e1.R) := Lib.hid hP1.row
  have R4 := Lib.hid hP2.row
  have GE := Lib.hid (sS rfl)
  clear hP0 hP1 hP2 hP3 sS
  have v1 : e1.steps = 1 := (congrArg En.steps GE.out.1 : _)
  have v2 : e1.dM = 1 := (congrArg En.dM GE.out.1 : _)
  have v3 : e1.sat = false := (congrArg En.sat GE.out.1 : _).trans MI.2.2.2
  have c1 : w.cell? ⟨b3, 22, none⟩ = some (I 1) := by rw [R3.out.cell, ← v1]; rfl
  have c2 : w.cell? ⟨b3, 23, none⟩ = some (I 1) := by rw [R3.out.cell, ← v2]; rfl
  have c3 : w.cell? ⟨b3, 28, none⟩ = some (.bool false) := by rw [R3.out.cell, ← v3]; rfl
  have c4 := R4.out.cell 0
  have c5 := R4.out.cell 1
  have c6 := R4.out.cell 2
  clear v1 v2 v3
  have RL := Lib.hid (Row.whole R3.out)
  have KF : Hid ((Tryz.prog.info? 35).map (·.size) = some e1.R.toList.length) := Lib.hid (by kernel_rfl)
  have EQ := PQ.afo 0 0 0 0 0 0 w
  go_wp2_with (with_reducible refine OG.iE rfl 35 (.tmp 3) rfl b3 0 rfl e1.R.toList _ RL.out Tryz.underlying35 rfl KF.out ?_)
  refine (yY e1 _ (fun j hj => (GE.out.2 j hj).1) (fun j hj => by rw [DJ, FM, GE.out.1]; exact ⟨Hq.lx j hj, Hq.lp j hj⟩)).mono ?_
  rintro x w6 ⟨A, cc, rfl, _, hb⟩
  have B6 := Lib.hid (B5.out.trans (hb.mono B5.out.size))
  clear hb
  go_wp2
  go_ret
  exact ⟨rfl, (B1.out.trans (B2.out.mono B1.out.size)).trans (B6.out.mono (B1.out.trans (B2.out.mono B1.out.size)).size)⟩
end Go.Proofs.YtcfobekkchhbbaaGreat.EE

namespace Go.Proofs.YtcfobekkchhbbaaGreat.EE
open Go.RowKit Go.Proofs.YtcfobekkchhbbaaGreat.KK Go.Proofs.af.aQ Go.Proofs.af.a_ Go.Proofs.af.bg
set_option linter.unusedVariables false
set_option linter.unusedSimpArgs false
structure Tg where
 r : Int
 c : Int
 A : Option Addr
 cx : Nat
 x : List Int
 r' : Int
 c' : Int
 B : Option Addr
 cp : Nat
 p : List Int
abbrev Tg.row (t : Tg) : Array Value := #[I t.r, I t.c, .slice t.A t.x.length t.cx, I t.r', I t.c', .slice t.B t.p.length t.cp]
structure Eg where
 q0 : Int
 q1 : Int
 q2 : Int
 q3 : Int
 t0 : Tg
 t1 : Tg
 t2 : Tg
 steps : Int
 dM : Int
 f0 : Int
 f1 : Int
 f2 : Int
 f3 : Int
 sat : Bool
abbrev Eg.row (e : Eg) : Array Value :=
 #[I e.q0, I e.q1, I e.q2, I e.q3,
   I e.t0.r, I e.t0.c, .slice e.t0.A e.t0.x.length e.t0.cx, I e.t0.r', I e.t0.c', .slice e.t0.B e.t0.p.length e.t0.cp,
   I e.t1.r, I e.t1.c, .slice e.t1.A e.t1.x.length e.t1.cx, I e.t1.r', I e.t1.c', .slice e.t1.B e.t1.p.length e.t1.cp,
   I e.t2.r, I e.t2.c, .slice e.t2.A e.t2.x.length e.t2.cx, I e.t2.r', I e.t2.c', .slice e.t2.B e.t2.p.length e.t2.cp,
   I e.steps, I e.dM, I e.f0, I e.f1, I e.f2, I e.f3, .bool e.sat]
def Eg.R (e : Eg) : Array Value := e.row
def Eg.t (e : Eg) : Nat → Tg
 | 0 => e.t0
 | 1 => e.t1
 | _ => e.t2
structure vU (w : World) (t : Tg) : Prop where
 x : Rd w t.A t.x
 xc : t.x.length ≤ t.cx
 p : Rd w t.B t.p
 pd : t.p.length ≤ t.cp
theorem vU.below {w w' : World} {t : Tg} (h : vU w t) (hb : Below w.heap.size w w') : vU w' t := ⟨h.x.below hb, h.xc, h.p.below hb, h.pd⟩
def Tg.ok (t : Tg) : Bool := decide (PR.gQ t.r t.c t.x t.r' t.c' t.p) && decide (t.r = 3)
def Eg.DI (e : Eg) : Nat → Int
 | 0 => e.f0
 | 1 => e.f1
 | 2 => e.f2
 | _ => e.f3
def Eg.n0 (e : Eg) : Bool := ((decide (e.steps < 0) || decide (e.steps > 1099511627776)) || decide (e.dM < 0)) || decide (e.dM > 1000)
def Eg.o4 (e : Eg) : Bool := !fU e.f0 && (!fU e.f1 && (!fU e.f2 && !fU e.f3))
def Eg.t3 (e : Eg) : Bool := e.t0.ok && (e.t1.ok && e.t2.ok)
def Eg.ok (e : Eg) : Bool := !e.n0 && (e.o4 && (e.t3 && PQ.iw (PQ.at4 e.q0 e.q1 e.q2 e.q3) 4))
theorem jr (t : Tg) (w : World) (h : vU w t) : Calls Tryz.prog 35 #[.agg t.row] w fun e w' => e = .returned (.bool (decide (PR.gQ t.r t.c t.x t.r' t.c' t.p))) ∧ Below w.heap.size w w' := by
 obtain ⟨k, hk⟩ := (PR.Fp t.r t.c t.x t.r' t.c' t.p).rounds
 exact PQ.aN.calls k t.r t.c t.A t.cx t.x t.r' t.c' t.B t.cp t.p _ w h.x h.xc h.p h.pd hk
theorem iC (q : Int) : fU q = (decide (q < 0) || decide (q > 1000)) := rfl
theorem xA (e : Eg) (w : World) (hr : ∀ j, j < 3 → vU w (e.t j)) : Calls Tryz.prog 11 #[.agg e.R] w fun x w' => x = .returned (.bool e.ok) ∧ Below w.heap.size w w' := by
 have HR := Lib.hid hr
 have L : Hid (bD w [(35, e.R)] (w.alloc (.cells e.R 35))) := Lib.hid ((bD.none w).push (by simp) _ _)
 clear hr
 go_enter Tryz.func11, Tryz.ntmps11
 go_upto_region 1 with fail
 generalize (w.alloc (.cells e.R 35)) = w1 at L ⊢
 have hc : ∀ i, w1.cell? ⟨w.heap.size, i, none⟩ = e.row[i]? := L.out.r0.cell
 cases n1 : decide (e.steps < 0)
 case true =>
  have N0 : Hid (e.n0 = true) := Lib.hid (by simp [Eg.n0, n1])
  go_wp2
  go_ret
  exact ⟨by simp only [Eg.ok, N0.out]; rfl, L.out.be⟩
 cases n2 : decide (e.steps > 1099511627776)
 case true =>
  have N0 : Hid (e.n0 = true) := Lib.hid (by simp [Eg.n0, n2])
  go_wp2
  go_ret
  exact ⟨by simp only [Eg.ok, N0.out]; rfl, L.out.be⟩
 cases n3 : decide (e.dM < 0)
 case true =>
  have N0 : Hid (e.n0 = true) := Lib.hid (by simp [Eg.n0, n3])
  go_wp2
  go_ret
  exact ⟨by simp only [Eg.ok, N0.out]; rfl, L.out.be⟩
 cases n4 : decide (e.dM > 1000)
 case true =>
  have N0 : Hid (e.n0 = true) := Lib.hid (by simp [Eg.n0, n4])
  go_wp2
  go_ret
  exact ⟨by simp only [Eg.ok, N0.out]; rfl, L.out.be⟩
 have N0 : Hid (e.n0 = false) := Lib.hid (by simp only [Eg.n0, n1, n2, n3, n4]; rfl)
 go_wp2
 clear n1 n2 n3 n4
 go_loop [3] (fun i => ∃ k : Nat, k ≤ 4 ∧ i = .int .i64 k ∧ Hid (∀ j, j < k → fU (e.DI j) = false)) (fun i => 4 - (intOf i).toNat)
 case atStart => exact ⟨0, by omega, rfl, Lib.hid (fun j hj => by omega)⟩
 case round =>
  obtain ⟨k, hk, rfl, F⟩ := hrel
  obtain rfl | h4 : k = 4 ∨ k < 4 := by omega
  · have O4 : Hid (e.o4 = true) := Lib.hid (by
     have h0 := F.out 0 (by decide)
     have h1 := F.out 1 (by decide)
     have h2 := F.out 2 (by decide)
     have h3 := F.out 3 (by decide)
     simp only [Eg.DI] at h0 h1 h2 h3
     simp [Eg.o4, h0, h1, h2, h3])
    clear F hc hk
    go_wp2
    go_loopw [4, 5] (fun i x wl => ∃ k : Nat, k ≤ 3 ∧ i = .int .i64 k ∧ Hid (∀ j, j < k → (e.t j).ok = true) ∧ Hid (bD w [(35, e.R)] wl)) (fun i _ _ => 3 - (intOf i).toNat)
    case atStart => exact ⟨0, by omega, rfl, Lib.hid (fun j hj => by omega), L⟩
    case round =>
     clear L
     obtain ⟨k, hk, rfl, F, L⟩ := hrel
     obtain rfl | h3 : k = 3 ∨ k < 3 := by omega
     · have T3 : Hid (e.t3 = true) := Lib.hid (by
        have h0 := F.out 0 (by decide)
        have h1 := F.out 1 (by decide)
        have h2 := F.out 2 (by decide)
        simp only [Eg.t] at h0 h1 h2
        simp [Eg.t3, h0, h1, h2])
       clear F hk
       have hc : ∀ i, wr.cell? ⟨w.heap.size, i, none⟩ = e.row[i]? := L.out.r0.cell
       go_wp2_with fail
       refine (PQ.Bd e.q0 e.q1 e.q2 e.q3 _).mono ?_
       rintro x w5 ⟨rfl, hb⟩
       have L5 := Lib.hid (L.out.below hb)
       clear hb hc L
       go_wp2
       go_ret
       exact ⟨by simp only [Eg.ok, N0.out, O4.out, T3.out]; rfl, L5.out.be⟩
     · have RA := Lib.hid (vU.below (HR.out k h3) L.out.be)
       have hc : ∀ i, wr.cell? ⟨w.heap.size, i, none⟩ = e.row[i]? := L.out.r0.cell
       obtain rfl | rfl | rfl : k = 0 ∨ k = 1 ∨ k = 2 := by omega
       · cases ht : decide (PR.gQ (e.t 0).r (e.t 0).c (e.t 0).x (e.t 0).r' (e.t 0).c' (e.t 0).p)
         case false =>
          have T3 : Hid (e.t3 = false) := Lib.hid (by
           have : (e.t 0).ok = false := by simp only [Tg.ok, ht]; rfl
           simp only [Eg.t] at this
           simp [Eg.t3, this])
          go_wp2_with fail
          refine (jr (e.t 0) _ RA.out).mono ?_
          rintro x w5 ⟨rfl, hb⟩
          have L5 := Lib.hid (L.out.below hb)
          rw [ht]
          clear hb hc L ht
          have hc : ∀ i, w5.cell? ⟨w.heap.size, i, none⟩ = e.row[i]? := L5.out.r0.cell
          go_wp2
          go_ret
          exact ⟨by simp only [Eg.ok, N0.out, O4.out, T3.out]; rfl, L5.out.be⟩
         have HT := Lib.hid ht
         go_wp2_with fail
         refine (jr (e.t 0) _ RA.out).mono ?_
         rintro x w5 ⟨rfl, hb⟩
         have L5 := Lib.hid (L.out.below hb)
         rw [ht]
         clear hb hc L ht
         have hc : ∀ i, w5.cell? ⟨w.heap.size, i, none⟩ = e.row[i]? := L5.out.r0.cell
         cases h5 : ((e.t 0).r == 3)
         · have h6 : ((e.t 0).r != 3) = true := by rw [bne, h5]; rfl
           have T3 : Hid (e.t3 = false) := Lib.hid (by
            have h7 : (e.t 0).r ≠ 3 := by simpa using h5
            have : (e.t 0).ok = false := by simp [Tg.ok, h7]
            simp only [Eg.t] at this
            simp [Eg.t3, this])
           simp only [Eg.t] at h5 h6
           go_wp2
           go_ret
           exact ⟨by simp only [Eg.ok, N0.out, O4.out, T3.out]; rfl, L5.out.be⟩
         · have h6 : ((e.t 0).r != 3) = false := by rw [bne, h5]; rfl
           have TK : Hid ((e.t 0).ok = true) := Lib.hid (by
            have h7 : (e.t 0).r = 3 := by simpa using h5
            simp only [Tg.ok, HT.out, Bool.true_and]; exact decide_eq_true h7)
           simp only [Eg.t] at h5 h6
           have FN : Hid (∀ j, j < 0 + 1 → (e.t j).ok = true) := Lib.hid (fun j hj => by
            rcases Nat.lt_or_ge j 0 with h | h
            · exact F.out j h
            · obtain rfl : j = 0 := by omega
              exact TK.out)
           clear F HT TK
           go_wp2
           go_roundw
           case rel => exact ⟨0 + 1, by omega, by go_num, FN, L5⟩
           case measure => simp [intOf]
       · cases ht : decide (PR.gQ (e.t 1).r (e.t 1).c (e.t 1).x (e.t 1).r' (e.t 1).c' (e.t 1).p)
         case false =>
          have T3 : Hid (e.t3 = false) := Lib.hid (by
           have : (e.t 1).ok = false := by simp only [Tg.ok, ht]; rfl
           simp only [Eg.t] at this
           simp [Eg.t3, this])
          go_wp2_with fail
          refine (jr (e.t 1) _ RA.out).mono ?_
          rintro x w5 ⟨rfl, hb⟩
          have L5 := Lib.hid (L.out.below hb)
          rw [ht]
          clear hb hc L ht
          have hc : ∀ i, w5.cell? ⟨w.heap.size, i, none⟩ = e.row[i]? := L5.out.r0.cell
          go_wp2
          go_ret
          exact ⟨by simp only [Eg.ok, N0.out, O4.out, T3.out]; rfl, L5.out.be⟩
         have HT := Lib.hid ht
         go_wp2_with fail
         refine (jr (e.t 1) _ RA.out).mono ?_
         rintro x w5 ⟨rfl, hb⟩
         have L5 := Lib.hid (L.out.below hb)
         rw [ht]
         clear hb hc L ht
         have hc : ∀ i, w5.cell? ⟨w.heap.size, i, none⟩ = e.row[i]? := L5.out.r0.cell
         cases h5 : ((e.t 1).r == 3)
         · have h6 : ((e.t 1).r != 3) = true := by rw [bne, h5]; rfl
           have T3 : Hid (e.t3 = false) := Lib.hid (by
            have h7 : (e.t 1).r ≠ 3 := by simpa using h5
            have : (e.t 1).ok = false := by simp [Tg.ok, h7]
            simp only [Eg.t] at this
            simp [Eg.t3, this])
           simp only [Eg.t] at h5 h6
           go_wp2
           go_ret
           exact ⟨by simp only [Eg.ok, N0.out, O4.out, T3.out]; rfl, L5.out.be⟩
         · have h6 : ((e.t 1).r != 3) = false := by rw [bne, h5]; rfl
           have TK : Hid ((e.t 1).ok = true) := Lib.hid (by
            have h7 : (e.t 1).r = 3 := by simpa using h5
            simp only [Tg.ok, HT.out, Bool.true_and]; exact decide_eq_true h7)
           simp only [Eg.t] at h5 h6
           have FN : Hid (∀ j, j < 1 + 1 → (e.t j).ok = true) := Lib.hid (fun j hj => by
            rcases Nat.lt_or_ge j 1 with h | h
            · exact F.out j h
            · obtain rfl : j = 1 := by omega
              exact TK.out)
           clear F HT TK
           go_wp2
           go_roundw
           case rel => exact ⟨1 + 1, by omega, by go_num, FN, L5⟩
           case measure => simp [intOf]
       · cases ht : decide (PR.gQ (e.t 2).r (e.t 2).c (e.t 2).x (e.t 2).r' (e.t 2).c' (e.t 2).p)
         case false =>
          have T3 : Hid (e.t3 = false) := Lib.hid (by
           have : (e.t 2).ok = false := by simp only [Tg.ok, ht]; rfl
           simp only [Eg.t] at this
           simp [Eg.t3, this])
          go_wp2_with fail
          refine (jr (e.t 2) _ RA.out).mono ?_
          rintro x w5 ⟨rfl, hb⟩
          have L5 := Lib.hid (L.out.below hb)
          rw [ht]
          clear hb hc L ht
          have hc : ∀ i, w5.cell? ⟨w.heap.size, i, none⟩ = e.row[i]? := L5.out.r0.cell
          go_wp2
          go_ret
          exact ⟨by simp only [Eg.ok, N0.out, O4.out, T3.out]; rfl, L5.out.be⟩
         have HT := Lib.hid ht
         go_wp2_with fail
         refine (jr (e.t 2) _ RA.out).mono ?_
         rintro x w5 ⟨rfl, hb⟩
         have L5 := Lib.hid (L.out.below hb)
         rw [ht]
         clear hb hc L ht
         have hc : ∀ i, w5.cell? ⟨w.heap.size, i, none⟩ = e.row[i]? := L5.out.r0.cell
         cases h5 : ((e.t 2).r == 3)
         · have h6 : ((e.t 2).r != 3) = true := by rw [bne, h5]; rfl
           have T3 : Hid (e.t3 = false) := Lib.hid (by
            have h7 : (e.t 2).r ≠ 3 := by simpa using h5
            have : (e.t 2).ok = false := by simp [Tg.ok, h7]
            simp only [Eg.t] at this
            simp [Eg.t3, this])
           simp only [Eg.t] at h5 h6
           go_wp2
           go_ret
           exact ⟨by simp only [Eg.ok, N0.out, O4.out, T3.out]; rfl, L5.out.be⟩
         · have h6 : ((e.t 2).r != 3) = false := by rw [bne, h5]; rfl
           have TK : Hid ((e.t 2).ok = true) := Lib.hid (by
            have h7 : (e.t 2).r = 3 := by simpa using h5
            simp only [Tg.ok, HT.out, Bool.true_and]; exact decide_eq_true h7)
           simp only [Eg.t] at h5 h6
           have FN : Hid (∀ j, j < 2 + 1 → (e.t j).ok = true) := Lib.hid (fun j hj => by
            rcases Nat.lt_or_ge j 2 with h | h
            · exact F.out j h
            · obtain rfl : j = 2 := by omega
              exact TK.out)
           clear F HT TK
           go_wp2
           go_roundw
           case rel => exact ⟨2 + 1, by omega, by go_num, FN, L5⟩
           case measure => simp [intOf]
  · have hc' : ∀ i, w1.cell? ⟨w.heap.size, i, none⟩ = e.row[i]? := hc
    obtain rfl | rfl | rfl | rfl : k = 0 ∨ k = 1 ∨ k = 2 ∨ k = 3 := by omega
    · cases h1 : decide (e.f0 < 0)
      case true =>
       have O4 : Hid (e.o4 = false) := Lib.hid (by simp [Eg.o4, iC, h1])
       go_wp2
       go_ret
       exact ⟨by simp only [Eg.ok, N0.out, O4.out]; rfl, L.out.be⟩
      cases h2 : decide (e.f0 > 1000)
      case true =>
       have O4 : Hid (e.o4 = false) := Lib.hid (by simp [Eg.o4, iC, h2])
       go_wp2
       go_ret
       exact ⟨by simp only [Eg.ok, N0.out, O4.out]; rfl, L.out.be⟩
      have FN : Hid (∀ j, j < 0 + 1 → fU (e.DI j) = false) := Lib.hid (fun j hj => by
       rcases Nat.lt_or_ge j 0 with h | h
       · exact F.out j h
       · obtain rfl : j = 0 := by omega
         simp only [Eg.DI, iC, h1, h2]; rfl)
      clear F
      go_wp2
      go_round
      case rel => exact ⟨0 + 1, by omega, by go_num, FN⟩
      case measure => simp [intOf]
    · cases h1 : decide (e.f1 < 0)
      case true =>
       have O4 : Hid (e.o4 = false) := Lib.hid (by simp [Eg.o4, iC, h1])
       go_wp2
       go_ret
       exact ⟨by simp only [Eg.ok, N0.out, O4.out]; rfl, L.out.be⟩
      cases h2 : decide (e.f1 > 1000)
      case true =>
       have O4 : Hid (e.o4 = false) := Lib.hid (by simp [Eg.o4, iC, h2])
       go_wp2
       go_ret
       exact ⟨by simp only [Eg.ok, N0.out, O4.out]; rfl, L.out.be⟩
      have FN : Hid (∀ j, j < 1 + 1 → fU (e.DI j) = false) := Lib.hid (fun j hj => by
       rcases Nat.lt_or_ge j 1 with h | h
       · exact F.out j h
       · obtain rfl : j = 1 := by omega
         simp only [Eg.DI, iC, h1, h2]; rfl)
      clear F
      go_wp2
      go_round
      case rel => exact ⟨1 + 1, by omega, by go_num, FN⟩
      case measure => simp [intOf]
    · cases h1 : decide (e.f2 < 0)
      case true =>
       have O4 : Hid (e.o4 = false) := Lib.hid (by simp [Eg.o4, iC, h1])
       go_wp2
       go_ret
       exact ⟨by simp only [Eg.ok, N0.out, O4.out]; rfl, L.out.be⟩
      cases h2 : decide (e.f2 > 1000)
      case true =>
       have O4 : Hid (e.o4 = false) := Lib.hid (by simp [Eg.o4, iC, h2])
       go_wp2
       go_ret
       exact ⟨by simp only [Eg.ok, N0.out, O4.out]; rfl, L.out.be⟩
      have FN : Hid (∀ j, j < 2 + 1 → fU (e.DI j) = false) := Lib.hid (fun j hj => by
       rcases Nat.lt_or_ge j 2 with h | h
       · exact F.out j h
       · obtain rfl : j = 2 := by omega
         simp only [Eg.DI, iC, h1, h2]; rfl)
      clear F
      go_wp2
      go_round
      case rel => exact ⟨2 + 1, by omega, by go_num, FN⟩
      case measure => simp [intOf]
    · cases h1 : decide (e.f3 < 0)
      case true =>
       have O4 : Hid (e.o4 = false) := Lib.hid (by simp [Eg.o4, iC, h1])
       go_wp2
       go_ret
       exact ⟨by simp only [Eg.ok, N0.out, O4.out]; rfl, L.out.be⟩
      cases h2 : decide (e.f3 > 1000)
      case true =>
       have O4 : Hid (e.o4 = false) := Lib.hid (by simp [Eg.o4, iC, h2])
       go_wp2
       go_ret
       exact ⟨by simp only [Eg.ok, N0.out, O4.out]; rfl, L.out.be⟩
      have FN : Hid (∀ j, j < 3 + 1 → fU (e.DI j) = false) := Lib.hid (fun j hj => by
       rcases Nat.lt_or_ge j 3 with h | h
       · exact F.out j h
       · obtain rfl : j = 3 := by omega
         simp only [Eg.DI, iC, h1, h2]; rfl)
      clear F
      go_wp2
      go_round
      case rel => exact ⟨3 + 1, by omega, by go_num, FN⟩
      case measure => simp [intOf]
end Go.Proofs.YtcfobekkchhbbaaGreat.EE

namespace Go.Proofs.YtcfobekkchhbbaaGreat.OG
open Go Go.RowKit Go.Proofs.YtcfobekkchhbbaaGreat.KK
section
variable {P : Program} {ops : Array Oper} {Q : Exit → Act → World → Prop}
theorem Steps.opt {J : (Nat → Bool) → Act → World → Prop} {k : Nat} {o : Oper} {r : List Oper} {gi dst : Nat} {gb : Bool} (b : Bool) (hg : o.guard = some (gi, gb)) (hd : (ops[gi]?).bind (·.dst) = some dst)
 (hv : ∀ l a w, J l a w → deps o l → a.tmps[dst]? = some (.bool (b == gb)))
 (h : ∀ l a w (K : Act → World → Prop), Hid (∀ a' w', J (upd l k) a' w' → K a' w') → J l a w → Closed ops l → l k = false → deps o l → (b = true → o.wp P a w K Q) ∧ (b = false → K (a.put o.dst undef) w)) (hr : Steps P ops Q J (k + 1) r) : Steps P ops Q J k (o :: r) :=
 ⟨fun l a w hJ hc hl hdp => by
   have h1 := hv l a w hJ hdp
   have h2 := h l a w _ (Lib.hid fun _ _ h => h) hJ hc hl hdp
   cases b
   · exact .inr ⟨by cases gb <;> simp [Region.wanted, hg, yielded, hd, h1], h2.2 rfl⟩
   · exact .inl ⟨by cases gb <;> simp [Region.wanted, hg, yielded, hd, h1], h2.1 rfl⟩, hr⟩
end
end Go.Proofs.YtcfobekkchhbbaaGreat.OG

namespace Go.Proofs.YtcfobekkchhbbaaGreat.PR
open Go.RowKit Go.Proofs.YtcfobekkchhbbaaGreat.PQ Go.Proofs.af.aQ Go.Proofs.af.a_ Go.Proofs.af.bg Go.Proofs.YtcfobekkchhbbaaGreat.KK
set_option linter.unusedVariables false
set_option linter.unusedSimpArgs false
theorem Bi (r c : Int) (A : Option Addr) (cp : Nat) (x : List Int) (r' c' : Int) (B : Option Addr) (cp' : Nat) (l : List Int) (w0 : World) (hA : Rd w0 A x) (hB : Rd w0 B l) (kB : l.length ≤ cp') :
 Calls Tryz.prog 39 #[.agg #[I r, I c, .slice A x.length cp, I r', I c', .slice B l.length cp']] w0 fun e w' => e = .returned (.bool (decide (gQ r c x r' c' l))) ∧ Below w0.heap.size w0 w' := by
 have NB := Lib.hid (KK.Row.new w0 31 #[I r, I c, .slice A x.length cp, I r', I c', .slice B l.length cp'])
 have B0 := Lib.hid ((Below.refl w0.heap.size w0).alloc (Nat.le_refl _) (.cells #[I r, I c, .slice A x.length cp, I r', I c', .slice B l.length cp'] 31))
 have HA := Lib.hid hA
 have HB := Lib.hid hB
 have KB := Lib.hid kB
 clear hA hB kB
 obtain ⟨g1, hg1⟩ : ∃ b, iy r c x = b := ⟨_, rfl⟩
 obtain ⟨g2, hg2⟩ : ∃ b, (g1 && iy r' c' l) = b := ⟨_, rfl⟩
 obtain ⟨g3, hg3⟩ : ∃ b, (g2 && (c == 1)) = b := ⟨_, rfl⟩
 obtain ⟨g4, hg4⟩ : ∃ b, (g3 && (r' == r)) = b := ⟨_, rfl⟩
 obtain ⟨g5, hg5⟩ : ∃ b, (g4 && (c' == r)) = b := ⟨_, rfl⟩
 obtain ⟨L, ZG⟩ : ∃ L, xq r.toNat r.toNat l = L := ⟨_, rfl⟩
 obtain ⟨g6, Xl⟩ : ∃ b, (g5 && decide (l = L)) = b := ⟨_, rfl⟩
 go_enter Tryz.func39, Tryz.ntmps39
 go_upto_region 1 with fail
 generalize w0.alloc (.cells #[I r, I c, .slice A x.length cp, I r', I c', .slice B l.length cp'] 31) = w1 at NB B0 ⊢
 have hx : ∀ i, w1.cell? ⟨w0.heap.size, i, none⟩ = #[I r, I c, .slice A x.length cp, I r', I c', .slice B l.length cp'][i]? := NB.out.cell
 have aaw : Hid (∀ w', Below w1.heap.size w1 w' → Calls Tryz.prog 80 #[.agg #[I r, I c, .slice A x.length cp]] w' fun e w'' => e = .returned (.bool g1) ∧ Below w'.heap.size w' w'') := Lib.hid (fun w' h => by
  have hh := jG r c A cp x w' (HA.out.below (B0.out.trans (h.mono B0.out.size)))
  rw [hg1] at hh
  exact hh)
 have aav : Hid (g1 = true → ∀ w', Below w1.heap.size w1 w' → Calls Tryz.prog 80 #[.agg #[I r', I c', .slice B l.length cp']] w' fun e w'' => e = .returned (.bool g2) ∧ Below w'.heap.size w' w'') := Lib.hid (fun hg w' h => by
  have hh := jG r' c' B cp' l w' (HB.out.below (B0.out.trans (h.mono B0.out.size)))
  rw [show iy r' c' l = g2 by rw [← hg2, hg, Bool.true_and]] at hh
  exact hh)
 have E3 : Hid (g2 = true → (c != 1) = !g3) := Lib.hid (fun hg => by rw [← hg3, hg, Bool.true_and]; rfl)
 have E4 : Hid (g3 = true → (r' != r) = !g4) := Lib.hid (fun hg => by rw [← hg4, hg, Bool.true_and]; rfl)
 have E5 : Hid (g4 = true → (c' != r) = !g5) := Lib.hid (fun hg => by rw [← hg5, hg, Bool.true_and]; rfl)
 have F2 : Hid (g1 = false → g2 = false) := Lib.hid (fun hg => by rw [← hg2, hg]; rfl)
 have F3 : Hid (g2 = false → g3 = false) := Lib.hid (fun hg => by rw [← hg3, hg]; rfl)
 have F4 : Hid (g3 = false → g4 = false) := Lib.hid (fun hg => by rw [← hg4, hg]; rfl)
 have F5 : Hid (g4 = false → g5 = false) := Lib.hid (fun hg => by rw [← hg5, hg]; rfl)
 have F6 : Hid (g5 = false → g6 = false) := Lib.hid (fun hg => by rw [← Xl, hg]; rfl)
 have G5 : Hid (g5 = true → g1 = true ∧ g2 = true ∧ iy r c x = true ∧ iy r' c' l = true ∧ c = 1 ∧ r' = r ∧ c' = r) := Lib.hid (fun hg => by
  have a5 := hg5
  rw [hg, Bool.and_eq_true, beq_iff_eq] at a5
  have a4 := hg4
  rw [a5.1, Bool.and_eq_true, beq_iff_eq] at a4
  have a3 := hg3
  rw [a4.1, Bool.and_eq_true, beq_iff_eq] at a3
  have a2 := hg2
  rw [a3.1, Bool.and_eq_true] at a2
  exact ⟨a2.1, a3.1, hg1.trans a2.1, a2.2, a3.2, a4.2, a5.2⟩)
 have SH : Hid (g5 = true → ∃ n : Nat, r = n ∧ c = 1 ∧ r' = n ∧ c' = n ∧ 1 ≤ n ∧ n ≤ 8 ∧ l.length = n * n) := Lib.hid (fun hg => by
  obtain ⟨_, _, p1, p2, rfl, rfl, rfl⟩ := G5.out hg
  obtain ⟨a1, a2, _, _, _, _⟩ := iU p1
  obtain ⟨_, _, _, _, b5, _⟩ := iU p2
  exact ⟨c'.toNat, by omega, rfl, by omega, by omega, by omega, by omega, b5⟩)
 have T77 : Hid (g5 = true → ∀ w', Below w1.heap.size w1 w' → Calls Tryz.prog 82 #[.agg #[I r', I c', .slice B l.length cp']] w' fun e w'' => ∃ Q dq, e = .returned (.agg #[I r', I c', .slice Q l.length dq]) ∧ (Rd w'' Q L ∧ l.length ≤ dq) ∧ Below w'.heap.size w' w'') := Lib.hid (fun hg w' h => by
  obtain ⟨n, hr, hc, hr', hc', h1, h8, hl⟩ := SH.out hg
  have hh := lQ n n B cp' l w' h8 h8 hl (HB.out.below (B0.out.trans (h.mono B0.out.size)))
  rw [hr', hc']
  refine hh.mono ?_
  rintro e w'' ⟨v, rfl, ho, hb⟩
  have hL : xq n n l = L := by rw [← ZG, hr]; rfl
  have hlen : (xq n n l).length = l.length := by rw [oV, hl]
  obtain ⟨Q, dq, rfl, _, _⟩ := Own.reads ho
  have hr := Own.rd ho
  rw [hlen] at hr ⊢
  rw [hL] at hr
  exact ⟨Q, dq, rfl, hr, hb⟩)
 have T76 : Hid (g5 = true → ∀ w' Q dq, Below w1.heap.size w1 w' → Rd w' Q L → l.length ≤ dq → Calls Tryz.prog 81 #[.agg #[I r', I c', .slice B l.length cp'], .agg #[I r', I c', .slice Q l.length dq]] w' fun e w'' => e = .returned (.bool g6) ∧ Below w'.heap.size w' w'') := Lib.hid (fun hg w' Q dq h hq hd => by
  obtain ⟨n, hr, hc, hr', hc', h1, h8, hl⟩ := SH.out hg
  have n64 := YW h8
  have hlen : L.length = l.length := by rw [← ZG, oV, hr, hl]; rfl
  have e1 := zl r' c' r' c' l L (by omega)
  have e2 : decide (r' = r' ∧ c' = c' ∧ l = L) = g6 := by
   rw [← Xl, hg, Bool.true_and]
   by_cases h : l = L <;> simp [h]
  rw [e2] at e1
  obtain ⟨k, hk⟩ := e1.rounds
  have hh := iD.calls k r' c' B cp' l r' c' Q dq L _ w' (HB.out.below (B0.out.trans (h.mono B0.out.size))) KB.out hq (by omega) hk
  rw [hlen] at hh
  exact hh)
 have G6 : Hid (g6 = true ↔ (g5 = true ∧ l = L)) := Lib.hid (by rw [← Xl, Bool.and_eq_true, decide_eq_true_eq])
 have G7 : Hid (g6 = true → ∃ n : Nat, r = n ∧ c = 1 ∧ r' = n ∧ c' = n ∧ n ≤ 8 ∧ l.length = n * n ∧ (gQ r c x r' c' l ↔ V7 n l 0)) := Lib.hid (fun hg => by
  have h5 := (G6.out.1 hg).1
  obtain ⟨n, hr, hc, hr', hc', h1, h8, hl⟩ := SH.out h5
  obtain ⟨_, _, p1, p2, _⟩ := G5.out h5
  refine ⟨n, hr, hc, hr', hc', h8, hl, ?_⟩
  have et : l = xq n n l := by
   have := (G6.out.1 hg).2
   rw [← ZG, hr] at this
   exact this
  have hte := z_ n l hl
  subst hr hc hr' hc'
  exact ⟨fun h => (hte.2 h.2.2.2.2.2).2, fun h => ⟨p1, p2, rfl, rfl, rfl, hte.1 ⟨et, h⟩⟩⟩)
 have GF : Hid (g6 = false → ¬ gQ r c x r' c' l) := Lib.hid (fun hg h => by
  obtain ⟨p1, p2, e1, e2, e3, he⟩ := h
  have h5 : g5 = true := by
   rw [← hg5, ← hg4, ← hg3, ← hg2, ← hg1, p1, p2, e1, e2, e3]
   simp
  have hb := (iU p2).2.2.2.2.1
  have hl : l.length = r.toNat * r.toNat := by rw [hb, e2, e3]
  have := G6.out.2 ⟨h5, by rw [← ZG]; exact ((z_ r.toNat l hl).2 he).1⟩
  rw [hg] at this
  cases this)
 clear hg1 hg2 hg3 hg4 hg5 Xl ZG
 go_upto_region 2 with fail
 refine OG.wR (by kernel_rfl) (fun l0 a w => ∃ Q : Option Addr, ∃ dq : Nat, a = { tmps := List.toArray (Value.agg #[I r, I c, Value.slice A x.length cp, I r', I c', Value.slice B l.length cp'] :: Value.pointer (some ⟨w0.heap.size, 0, none⟩) :: Value.bool false :: I r :: undef :: Value.pointer (some ⟨w0.heap.size, 0, none⟩) :: Value.pointer (some ⟨w0.heap.size, 0, none⟩) :: I r :: (bif l0 0 then Value.pointer (some ⟨w0.heap.size, 0, none⟩) else undef) :: (bif l0 1 then .agg #[I r, I c, .slice A x.length cp] else undef) :: (bif l0 2 then .bool g1 else undef) :: (bif l0 3 then .bool (!g1) else undef) :: (bif l0 4 then .bool (!g1) else undef) :: (bif l0 5 then (bif g1 then Value.pointer (some ⟨w0.heap.size, 3, none⟩) else undef) else undef) :: (bif l0 6 then (bif g1 then .agg #[I r', I c', .slice B l.length cp'] else undef) else undef) :: (bif l0 7 then (bif g1 then .bool g2 else undef) else undef) :: (bif l0 8 then (bif g1 then .bool (!g2) else undef) else undef) :: (bif l0 9 then .bool (!g2) else undef) :: (bif l0 10 then .bool (!g2) else undef) :: (bif l0 11 then (bif g2 then Value.pointer (some ⟨w0.heap.size, 0, none⟩) else undef) else undef) :: (bif l0 12 then (bif g2 then Value.pointer (some ⟨w0.heap.size, 1, none⟩) else undef) else undef) :: (bif l0 13 then (bif g2 then I c else undef) else undef) :: (bif l0 14 then (bif g2 then .bool (!g3) else undef) else undef) :: (bif l0 15 then .bool (!g3) else undef) :: (bif l0 16 then .bool (!g3) else undef) :: (bif l0 17 then (bif g3 then Value.pointer (some ⟨w0.heap.size, 3, none⟩) else undef) else undef) :: (bif l0 18 then (bif g3 then Value.pointer (some ⟨w0.heap.size, 3, none⟩) else undef) else undef) :: (bif l0 19 then (bif g3 then I r' else undef) else undef) :: (bif l0 20 then (bif g3 then I r else undef) else undef) :: (bif l0 21 then (bif g3 then .bool (!g4) else undef) else undef) :: (bif l0 22 then .bool (!g4) else undef) :: (bif l0 23 then .bool (!g4) else undef) :: (bif l0 24 then (bif g4 then Value.pointer (some ⟨w0.heap.size, 3, none⟩) else undef) else undef) :: (bif l0 25 then (bif g4 then Value.pointer (some ⟨w0.heap.size, 4, none⟩) else undef) else undef) :: (bif l0 26 then (bif g4 then I c' else undef) else undef) :: (bif l0 27 then (bif g4 then I r else undef) else undef) :: (bif l0 28 then (bif g4 then .bool (!g5) else undef) else undef) :: (bif l0 29 then .bool (!g5) else undef) :: (bif l0 30 then .bool (!g5) else undef) :: (bif l0 31 then (bif g5 then Value.pointer (some ⟨w0.heap.size, 3, none⟩) else undef) else undef) :: (bif l0 32 then (bif g5 then .agg #[I r', I c', .slice B l.length cp'] else undef) else undef) :: (bif l0 33 then (bif g5 then Value.pointer (some ⟨w0.heap.size, 3, none⟩) else undef) else undef) :: (bif l0 34 then (bif g5 then .agg #[I r', I c', .slice B l.length cp'] else undef) else undef) :: (bif l0 35 then (bif g5 then .agg #[I r', I c', .slice Q l.length dq] else undef) else undef) :: (bif l0 36 then (bif g5 then .bool g6 else undef) else undef) :: (bif l0 37 then (bif g5 then .bool (!g6) else undef) else undef) :: (bif l0 38 then .bool (!g6) else undef) :: undef :: undef :: undef :: undef :: undef :: undef :: undef :: undef :: undef :: undef :: undef :: undef :: undef :: undef :: undef :: undef :: []), defers := [] } ∧ (Below w1.heap.size w1 w) ∧ (l0 35 = true → g5 = true → Rd w Q L ∧ l.length ≤ dq)) (by kernel_rfl) ?s0 ?ss ?se
 case s0 => exact ⟨none, 0, rfl, (Below.refl _ _).drew, (fun h => by cases h)⟩
 case ss =>
  refine OG.Steps.cons rfl (fun l0 a w K hK hJ hcl h0 hd => ?_) (OG.Steps.cons rfl (fun l0 a w K hK hJ hcl h0 hd => ?_) (OG.Steps.cons rfl (fun l0 a w K hK hJ hcl h0 hd => ?_) (OG.Steps.cons rfl (fun l0 a w K hK hJ hcl h0 hd => ?_) (OG.Steps.cons rfl (fun l0 a w K hK hJ hcl h0 hd => ?_) (OG.Steps.opt (gi := 4) (dst := 12) g1 rfl rfl (fun l0 a w hJ hd => by obtain ⟨Q, dq, rfl, hP0, hP1⟩ := hJ; have dg := hd.get 4 (by rfl); show (some (bif l0 4 then .bool (!g1) else undef) : Option Value) = some _; rw [dg]; cases g1 <;> rfl) (fun l0 a w K hK hJ hcl h0 hd => ⟨fun hg => ?_, fun hg => ?_⟩) (OG.Steps.opt (gi := 4) (dst := 12) g1 rfl rfl (fun l0 a w hJ hd => by obtain ⟨Q, dq, rfl, hP0, hP1⟩ := hJ; have dg := hd.get 4 (by rfl); show (some (bif l0 4 then .bool (!g1) else undef) : Option Value) = some _; rw [dg]; cases g1 <;> rfl) (fun l0 a w K hK hJ hcl h0 hd => ⟨fun hg => ?_, fun hg => ?_⟩) (OG.Steps.opt (gi := 4) (dst := 12) g1 rfl rfl (fun l0 a w hJ hd => by obtain ⟨Q, dq, rfl, hP0, hP1⟩ := hJ; have dg := hd.get 4 (by rfl); show (some (bif l0 4 then .bool (!g1) else undef) : Option Value) = some _; rw [dg]; cases g1 <;> rfl) (fun l0 a w K hK hJ hcl h0 hd => ⟨fun hg => ?_, fun hg => ?_⟩) (OG.Steps.opt (gi := 4) (dst := 12) g1 rfl rfl (fun l0 a w hJ hd => by obtain ⟨Q, dq, rfl, hP0, hP1⟩ := hJ; have dg := hd.get 4 (by rfl); show (some (bif l0 4 then .bool (!g1) else undef) : Option Value) = some _; rw [dg]; cases g1 <;> rfl) (fun l0 a w K hK hJ hcl h0 hd => ⟨fun hg => ?_, fun hg => ?_⟩) (OG.Steps.cons rfl (fun l0 a w K hK hJ hcl h0 hd => ?_) (OG.Steps.cons rfl (fun l0 a w K hK hJ hcl h0 hd => ?_) (OG.Steps.opt (gi := 10) (dst := 18) g2 rfl rfl (fun l0 a w hJ hd => by obtain ⟨Q, dq, rfl, hP0, hP1⟩ := hJ; have dg := hd.get 10 (by rfl); show (some (bif l0 10 then .bool (!g2) else undef) : Option Value) = some _; rw [dg]; cases g2 <;> rfl) (fun l0 a w K hK hJ hcl h0 hd => ⟨fun hg => ?_, fun hg => ?_⟩) (OG.Steps.opt (gi := 10) (dst := 18) g2 rfl rfl (fun l0 a w hJ hd => by obtain ⟨Q, dq, rfl, hP0, hP1⟩ := hJ; have dg := hd.get 10 (by rfl); show (some (bif l0 10 then .bool (!g2) else undef) : Option Value) = some _; rw [dg]; cases g2 <;> rfl) (fun l0 a w K hK hJ hcl h0 hd => ⟨fun hg => ?_, fun hg => ?_⟩) (OG.Steps.opt (gi := 10) (dst := 18) g2 rfl rfl (fun l0 a w hJ hd => by obtain ⟨Q, dq, rfl, hP0, hP1⟩ := hJ; have dg := hd.get 10 (by rfl); show (some (bif l0 10 then .bool (!g2) else undef) : Option Value) = some _; rw [dg]; cases g2 <;> rfl) (fun l0 a w K hK hJ hcl h0 hd => ⟨fun hg => ?_, fun hg => ?_⟩) (OG.Steps.opt (gi := 10) (dst := 18) g2 rfl rfl (fun l0 a w hJ hd => by obtain ⟨Q, dq, rfl, hP0, hP1⟩ := hJ; have dg := hd.get 10 (by rfl); show (some (bif l0 10 then .bool (!g2) else undef) : Option Value) = some _; rw [dg]; cases g2 <;> rfl) (fun l0 a w K hK hJ hcl h0 hd => ⟨fun hg => ?_, fun hg => ?_⟩) (OG.Steps.cons rfl (fun l0 a w K hK hJ hcl h0 hd => ?_) (OG.Steps.cons rfl (fun l0 a w K hK hJ hcl h0 hd => ?_) (OG.Steps.opt (gi := 16) (dst := 24) g3 rfl rfl (fun l0 a w hJ hd => by obtain ⟨Q, dq, rfl, hP0, hP1⟩ := hJ; have dg := hd.get 16 (by rfl); show (some (bif l0 16 then .bool (!g3) else undef) : Option Value) = some _; rw [dg]; cases g3 <;> rfl) (fun l0 a w K hK hJ hcl h0 hd => ⟨fun hg => ?_, fun hg => ?_⟩) (OG.Steps.opt (gi := 16) (dst := 24) g3 rfl rfl (fun l0 a w hJ hd => by obtain ⟨Q, dq, rfl, hP0, hP1⟩ := hJ; have dg := hd.get 16 (by rfl); show (some (bif l0 16 then .bool (!g3) else undef) : Option Value) = some _; rw [dg]; cases g3 <;> rfl) (fun l0 a w K hK hJ hcl h0 hd => ⟨fun hg => ?_, fun hg => ?_⟩) (OG.Steps.opt (gi := 16) (dst := 24) g3 rfl rfl (fun l0 a w hJ hd => by obtain ⟨Q, dq, rfl, hP0, hP1⟩ := hJ; have dg := hd.get 16 (by rfl); show (some (bif l0 16 then .bool (!g3) else undef) : Option Value) = some _; rw [dg]; cases g3 <;> rfl) (fun l0 a w K hK hJ hcl h0 hd => ⟨fun hg => ?_, fun hg => ?_⟩) (OG.Steps.opt (gi := 16) (dst := 24) g3 rfl rfl (fun l0 a w hJ hd => by obtain ⟨Q, dq, rfl, hP0, hP1⟩ := hJ; have dg := hd.get 16 (by rfl); show (some (bif l0 16 then .bool (!g3) else undef) : Option Value) = some _; rw [dg]; cases g3 <;> rfl) (fun l0 a w K hK hJ hcl h0 hd => ⟨fun hg => ?_, fun hg => ?_⟩) (OG.Steps.opt (gi := 16) (dst := 24) g3 rfl rfl (fun l0 a w hJ hd => by obtain ⟨Q, dq, rfl, hP0, hP1⟩ := hJ; have dg := hd.get 16 (by rfl); show (some (bif l0 16 then .bool (!g3) else undef) : Option Value) = some _; rw [dg]; cases g3 <;> rfl) (fun l0 a w K hK hJ hcl h0 hd => ⟨fun hg => ?_, fun hg => ?_⟩) (OG.Steps.cons rfl (fun l0 a w K hK hJ hcl h0 hd => ?_) (OG.Steps.cons rfl (fun l0 a w K hK hJ hcl h0 hd => ?_) (OG.Steps.opt (gi := 23) (dst := 31) g4 rfl rfl (fun l0 a w hJ hd => by obtain ⟨Q, dq, rfl, hP0, hP1⟩ := hJ; have dg := hd.get 23 (by rfl); show (some (bif l0 23 then .bool (!g4) else undef) : Option Value) = some _; rw [dg]; cases g4 <;> rfl) (fun l0 a w K hK hJ hcl h0 hd => ⟨fun hg => ?_, fun hg => ?_⟩) (OG.Steps.opt (gi := 23) (dst := 31) g4 rfl rfl (fun l0 a w hJ hd => by obtain ⟨Q, dq, rfl, hP0, hP1⟩ := hJ; have dg := hd.get 23 (by rfl); show (some (bif l0 23 then .bool (!g4) else undef) : Option Value) = some _; rw [dg]; cases g4 <;> rfl) (fun l0 a w K hK hJ hcl h0 hd => ⟨fun hg => ?_, fun hg => ?_⟩) (OG.Steps.opt (gi := 23) (dst := 31) g4 rfl rfl (fun l0 a w hJ hd => by obtain ⟨Q, dq, rfl, hP0, hP1⟩ := hJ; have dg := hd.get 23 (by rfl); show (some (bif l0 23 then .bool (!g4) else undef) : Option Value) = some _; rw [dg]; cases g4 <;> rfl) (fun l0 a w K hK hJ hcl h0 hd => ⟨fun hg => ?_, fun hg => ?_⟩) (OG.Steps.opt (gi := 23) (dst := 31) g4 rfl rfl (fun l0 a w hJ hd => by obtain ⟨Q, dq, rfl, hP0, hP1⟩ := hJ; have dg := hd.get 23 (by rfl); show (some (bif l0 23 then .bool (!g4) else undef) : Option Value) = some _; rw [dg]; cases g4 <;> rfl) (fun l0 a w K hK hJ hcl h0 hd => ⟨fun hg => ?_, fun hg => ?_⟩) (OG.Steps.opt (gi := 23) (dst := 31) g4 rfl rfl (fun l0 a w hJ hd => by obtain ⟨Q, dq, rfl, hP0, hP1⟩ := hJ; have dg := hd.get 23 (by rfl); show (some (bif l0 23 then .bool (!g4) else undef) : Option Value) = some _; rw [dg]; cases g4 <;> rfl) (fun l0 a w K hK hJ hcl h0 hd => ⟨fun hg => ?_, fun hg => ?_⟩) (OG.Steps.cons rfl (fun l0 a w K hK hJ hcl h0 hd => ?_) (OG.Steps.cons rfl (fun l0 a w K hK hJ hcl h0 hd => ?_) (OG.Steps.opt (gi := 30) (dst := 38) g5 rfl rfl (fun l0 a w hJ hd => by obtain ⟨Q, dq, rfl, hP0, hP1⟩ := hJ; have dg := hd.get 30 (by rfl); show (some (bif l0 30 then .bool (!g5) else undef) : Option Value) = some _; rw [dg]; cases g5 <;> rfl) (fun l0 a w K hK hJ hcl h0 hd => ⟨fun hg => ?_, fun hg => ?_⟩) (OG.Steps.opt (gi := 30) (dst := 38) g5 rfl rfl (fun l0 a w hJ hd => by obtain ⟨Q, dq, rfl, hP0, hP1⟩ := hJ; have dg := hd.get 30 (by rfl); show (some (bif l0 30 then .bool (!g5) else undef) : Option Value) = some _; rw [dg]; cases g5 <;> rfl) (fun l0 a w K hK hJ hcl h0 hd => ⟨fun hg => ?_, fun hg => ?_⟩) (OG.Steps.opt (gi := 30) (dst := 38) g5 rfl rfl (fun l0 a w hJ hd => by obtain ⟨Q, dq, rfl, hP0, hP1⟩ := hJ; have dg := hd.get 30 (by rfl); show (some (bif l0 30 then .bool (!g5) else undef) : Option Value) = some _; rw [dg]; cases g5 <;> rfl) (fun l0 a w K hK hJ hcl h0 hd => ⟨fun hg => ?_, fun hg => ?_⟩) (OG.Steps.opt (gi := 30) (dst := 38) g5 rfl rfl (fun l0 a w hJ hd => by obtain ⟨Q, dq, rfl, hP0, hP1⟩ := hJ; have dg := hd.get 30 (by rfl); show (some (bif l0 30 then .bool (!g5) else undef) : Option Value) = some _; rw [dg]; cases g5 <;> rfl) (fun l0 a w K hK hJ hcl h0 hd => ⟨fun hg => ?_, fun hg => ?_⟩) (OG.Steps.opt (gi := 30) (dst := 38) g5 rfl rfl (fun l0 a w hJ hd => by obtain ⟨Q, dq, rfl, hP0, hP1⟩ := hJ; have dg := hd.get 30 (by rfl); show (some (bif l0 30 then .bool (!g5) else undef) : Option Value) = some _; rw [dg]; cases g5 <;> rfl) (fun l0 a w K hK hJ hcl h0 hd => ⟨fun hg => ?_, fun hg => ?_⟩) (OG.Steps.opt (gi := 30) (dst := 38) g5 rfl rfl (fun l0 a w hJ hd => by obtain ⟨Q, dq, rfl, hP0, hP1⟩ := hJ; have dg := hd.get 30 (by rfl); show (some (bif l0 30 then .bool (!g5) else undef) : Option Value) = some _; rw [dg]; cases g5 <;> rfl) (fun l0 a w K hK hJ hcl h0 hd => ⟨fun hg => ?_, fun hg => ?_⟩) (OG.Steps.opt (gi := 30) (dst := 38) g5 rfl rfl (fun l0 a w hJ hd => by obtain ⟨Q, dq, rfl, hP0, hP1⟩ := hJ; have dg := hd.get 30 (by rfl); show (some (bif l0 30 then .bool (!g5) else undef) : Option Value) = some _; rw [dg]; cases g5 <;> rfl) (fun l0 a w K hK hJ hcl h0 hd => ⟨fun hg => ?_, fun hg => ?_⟩) (OG.Steps.cons rfl (fun l0 a w K hK hJ hcl h0 hd => ?_) OG.Steps.nil))))))))))))))))))))))))))))))))))))))
  · obtain ⟨Q, dq, rfl, hP0, hP1⟩ := hJ
    have HJ := Lib.hid (And.intro hP0 (hP1))
    clear hP0 hP1 hd hcl h0
    go_simp
    exact hK.out _ _ ⟨Q, dq, (rfl), (HJ.out.1), (HJ.out.2)⟩
  · obtain ⟨Q, dq, rfl, hP0, hP1⟩ := hJ
    have d0 := hd.get 0 (by rfl)
    have HJ := Lib.hid (And.intro hP0 (hP1))
    clear hP0 hP1 hd hcl h0
    have hx := (NB.out.below HJ.out.1 NB.out.lt).cell
    go_simp
    exact hK.out _ _ ⟨Q, dq, (by simp only [OG.upd, d0]; rfl), (HJ.out.1), (HJ.out.2)⟩
  · obtain ⟨Q, dq, rfl, hP0, hP1⟩ := hJ
    have d1 := hd.get 1 (by rfl)
    have HJ := Lib.hid (And.intro hP0 (hP1))
    clear hP0 hP1 hd hcl h0
    go_simp
    refine (aaw.out _ HJ.out.1).mono ?_
    rintro e w' ⟨rfl, hb⟩
    exact hK.out _ _ ⟨Q, dq, (by simp only [OG.upd, d1]; rfl), (HJ.out.1.trans (hb.mono HJ.out.1.size)), (fun h hg => ⟨(HJ.out.2 h hg).1.below hb, (HJ.out.2 h hg).2⟩)⟩
  · obtain ⟨Q, dq, rfl, hP0, hP1⟩ := hJ
    have d2 := hd.get 2 (by rfl)
    have HJ := Lib.hid (And.intro hP0 (hP1))
    clear hP0 hP1 hd hcl h0
    go_simp
    exact hK.out _ _ ⟨Q, dq, (by simp only [OG.upd, d2]; rfl), (HJ.out.1), (HJ.out.2)⟩
  · obtain ⟨Q, dq, rfl, hP0, hP1⟩ := hJ
    have d3 := hd.get 3 (by rfl)
    have HJ := Lib.hid (And.intro hP0 (hP1))
    clear hP0 hP1 hd hcl h0
    go_simp
    exact hK.out _ _ ⟨Q, dq, (by simp only [OG.upd, d3]; rfl), (HJ.out.1), (HJ.out.2)⟩
  · obtain ⟨Q, dq, rfl, hP0, hP1⟩ := hJ
    have HJ := Lib.hid (And.intro hP0 (hP1))
    clear hP0 hP1 hd hcl h0
    go_simp
    exact hK.out _ _ ⟨Q, dq, (by simp only [OG.upd, hg]; rfl), (HJ.out.1), (HJ.out.2)⟩
  · obtain ⟨Q, dq, rfl, hP0, hP1⟩ := hJ
    have HJ := Lib.hid (And.intro hP0 (hP1))
    clear hP0 hP1 hd hcl h0
    exact hK.out _ _ ⟨Q, dq, (by simp only [OG.upd, hg, cond_false, Bool.cond_self]; rfl), (HJ.out.1), (HJ.out.2)⟩
  · obtain ⟨Q, dq, rfl, hP0, hP1⟩ := hJ
    have d5 := hd.get 5 (by rfl)
    have HJ := Lib.hid (And.intro hP0 (hP1))
    clear hP0 hP1 hd hcl h0
    have hx := (NB.out.below HJ.out.1 NB.out.lt).cell
    go_simp
    exact hK.out _ _ ⟨Q, dq, (by simp only [OG.upd, d5, hg]; rfl), (HJ.out.1), (HJ.out.2)⟩
  · obtain ⟨Q, dq, rfl, hP0, hP1⟩ := hJ
    have d5 := hd.get 5 (by rfl)
    have HJ := Lib.hid (And.intro hP0 (hP1))
    clear hP0 hP1 hd hcl h0
    exact hK.out _ _ ⟨Q, dq, (by simp only [OG.upd, d5, hg, cond_false, Bool.cond_self]; rfl), (HJ.out.1), (HJ.out.2)⟩
  · obtain ⟨Q, dq, rfl, hP0, hP1⟩ := hJ
    have d6 := hd.get 6 (by rfl)
    have HJ := Lib.hid (And.intro hP0 (hP1))
    clear hP0 hP1 hd hcl h0
    go_simp
    refine (aav.out hg _ HJ.out.1).mono ?_
    rintro e w' ⟨rfl, hb⟩
    exact hK.out _ _ ⟨Q, dq, (by simp only [OG.upd, d6, hg]; rfl), (HJ.out.1.trans (hb.mono HJ.out.1.size)), (fun h hg => ⟨(HJ.out.2 h hg).1.below hb, (HJ.out.2 h hg).2⟩)⟩
  · obtain ⟨Q, dq, rfl, hP0, hP1⟩ := hJ
    have d6 := hd.get 6 (by rfl)
    have HJ := Lib.hid (And.intro hP0 (hP1))
    clear hP0 hP1 hd hcl h0
    exact hK.out _ _ ⟨Q, dq, (by simp only [OG.upd, d6, hg, cond_false, Bool.cond_self]; rfl), (HJ.out.1), (HJ.out.2)⟩
  · obtain ⟨Q, dq, rfl, hP0, hP1⟩ := hJ
    have d7 := hd.get 7 (by rfl)
    have HJ := Lib.hid (And.intro hP0 (hP1))
    clear hP0 hP1 hd hcl h0
    go_simp
    exact hK.out _ _ ⟨Q, dq, (by simp only [OG.upd, d7, hg]; rfl), (HJ.out.1), (HJ.out.2)⟩
  · obtain ⟨Q, dq, rfl, hP0, hP1⟩ := hJ
    have d7 := hd.get 7 (by rfl)
    have HJ := Lib.hid (And.intro hP0 (hP1))
    clear hP0 hP1 hd hcl h0
    exact hK.out _ _ ⟨Q, dq, (by simp only [OG.upd, d7, hg, cond_false, Bool.cond_self]; rfl), (HJ.out.1), (HJ.out.2)⟩
  · obtain ⟨Q, dq, rfl, hP0, hP1⟩ := hJ
    have d4 := hd.get 4 (by rfl)
    have d8 := hd.get 8 (by rfl)
    have HJ := Lib.hid (And.intro hP0 (hP1))
    clear hP0 hP1 hd hcl h0
    rcases Bool.eq_false_or_eq_true g1 with hg | hg
    · go_simp
      exact hK.out _ _ ⟨Q, dq, (by simp only [OG.upd, d4, d8, hg, cond_false, cond_true, Bool.cond_self]; rfl), (HJ.out.1), (HJ.out.2)⟩
    · have h2 := F2.out hg
      go_simp
      exact hK.out _ _ ⟨Q, dq, (by simp only [OG.upd, d4, d8, hg, h2, cond_false, cond_true, Bool.cond_self]; rfl), (HJ.out.1), (HJ.out.2)⟩
  · obtain ⟨Q, dq, rfl, hP0, hP1⟩ := hJ
    have d9 := hd.get 9 (by rfl)
    have HJ := Lib.hid (And.intro hP0 (hP1))
    clear hP0 hP1 hd hcl h0
    go_simp
    exact hK.out _ _ ⟨Q, dq, (by simp only [OG.upd, d9]; rfl), (HJ.out.1), (HJ.out.2)⟩
  · obtain ⟨Q, dq, rfl, hP0, hP1⟩ := hJ
    have HJ := Lib.hid (And.intro hP0 (hP1))
    clear hP0 hP1 hd hcl h0
    go_simp
    exact hK.out _ _ ⟨Q, dq, (by simp only [OG.upd, hg]; rfl), (HJ.out.1), (HJ.out.2)⟩
  · obtain ⟨Q, dq, rfl, hP0, hP1⟩ := hJ
    have HJ := Lib.hid (And.intro hP0 (hP1))
    clear hP0 hP1 hd hcl h0
    exact hK.out _ _ ⟨Q, dq, (by simp only [OG.upd, hg, cond_false, Bool.cond_self]; rfl), (HJ.out.1), (HJ.out.2)⟩
  · obtain ⟨Q, dq, rfl, hP0, hP1⟩ := hJ
    have d11 := hd.get 11 (by rfl)
    have HJ := Lib.hid (And.intro hP0 (hP1))
    clear hP0 hP1 hd hcl h0
    go_simp
    exact hK.out _ _ ⟨Q, dq, (by simp only [OG.upd, d11, hg]; rfl), (HJ.out.1), (HJ.out.2)⟩
  · obtain ⟨Q, dq, rfl, hP0, hP1⟩ := hJ
    have d11 := hd.get 11 (by rfl)
    have HJ := Lib.hid (And.intro hP0 (hP1))
    clear hP0 hP1 hd hcl h0
    exact hK.out _ _ ⟨Q, dq, (by simp only [OG.upd, d11, hg, cond_false, Bool.cond_self]; rfl), (HJ.out.1), (HJ.out.2)⟩
  · obtain ⟨Q, dq, rfl, hP0, hP1⟩ := hJ
    have d12 := hd.get 12 (by rfl)
    have HJ := Lib.hid (And.intro hP0 (hP1))
    clear hP0 hP1 hd hcl h0
    have hx := (NB.out.below HJ.out.1 NB.out.lt).cell
    go_simp
    exact hK.out _ _ ⟨Q, dq, (by simp only [OG.upd, d12, hg]; rfl), (HJ.out.1), (HJ.out.2)⟩
  · obtain ⟨Q, dq, rfl, hP0, hP1⟩ := hJ
    have d12 := hd.get 12 (by rfl)
    have HJ := Lib.hid (And.intro hP0 (hP1))
    clear hP0 hP1 hd hcl h0
    exact hK.out _ _ ⟨Q, dq, (by simp only [OG.upd, d12, hg, cond_false, Bool.cond_self]; rfl), (HJ.out.1), (HJ.out.2)⟩
  · obtain ⟨Q, dq, rfl, hP0, hP1⟩ := hJ
    have d13 := hd.get 13 (by rfl)
    have HJ := Lib.hid (And.intro hP0 (hP1))
    clear hP0 hP1 hd hcl h0
    have e3 := E3.out hg
    go_simp
    exact hK.out _ _ ⟨Q, dq, (by simp only [OG.upd, d13, hg, e3]; rfl), (HJ.out.1), (HJ.out.2)⟩
  · obtain ⟨Q, dq, rfl, hP0, hP1⟩ := hJ
    have d13 := hd.get 13 (by rfl)
    have HJ := Lib.hid (And.intro hP0 (hP1))
    clear hP0 hP1 hd hcl h0
    exact hK.out _ _ ⟨Q, dq, (by simp only [OG.upd, d13, hg, cond_false, Bool.cond_self]; rfl), (HJ.out.1), (HJ.out.2)⟩
  · obtain ⟨Q, dq, rfl, hP0, hP1⟩ := hJ
    have d10 := hd.get 10 (by rfl)
    have d14 := hd.get 14 (by rfl)
    have HJ := Lib.hid (And.intro hP0 (hP1))
    clear hP0 hP1 hd hcl h0
    rcases Bool.eq_false_or_eq_true g2 with hg | hg
    · go_simp
      exact hK.out _ _ ⟨Q, dq, (by simp only [OG.upd, d10, d14, hg, cond_false, cond_true, Bool.cond_self]; rfl), (HJ.out.1), (HJ.out.2)⟩
    · have h2 := F3.out hg
      go_simp
      exact hK.out _ _ ⟨Q, dq, (by simp only [OG.upd, d10, d14, hg, h2, cond_false, cond_true, Bool.cond_self]; rfl), (HJ.out.1), (HJ.out.2)⟩
  · obtain ⟨Q, dq, rfl, hP0, hP1⟩ := hJ
    have d15 := hd.get 15 (by rfl)
    have HJ := Lib.hid (And.intro hP0 (hP1))
    clear hP0 hP1 hd hcl h0
    go_simp
    exact hK.out _ _ ⟨Q, dq, (by simp only [OG.upd, d15]; rfl), (HJ.out.1), (HJ.out.2)⟩
  · obtain ⟨Q, dq, rfl, hP0, hP1⟩ := hJ
    have HJ := Lib.hid (And.intro hP0 (hP1))
    clear hP0 hP1 hd hcl h0
    go_simp
    exact hK.out _ _ ⟨Q, dq, (by simp only [OG.upd, hg]; rfl), (HJ.out.1), (HJ.out.2)⟩
  · obtain ⟨Q, dq, rfl, hP0, hP1⟩ := hJ
    have HJ := Lib.hid (And.intro hP0 (hP1))
    clear hP0 hP1 hd hcl h0
    exact hK.out _ _ ⟨Q, dq, (by simp only [OG.upd, hg, cond_false, Bool.cond_self]; rfl), (HJ.out.1), (HJ.out.2)⟩
  · obtain ⟨Q, dq, rfl, hP0, hP1⟩ := hJ
    have d17 := hd.get 17 (by rfl)
    have HJ := Lib.hid (And.intro hP0 (hP1))
    clear hP0 hP1 hd hcl h0
    go_simp
    exact hK.out _ _ ⟨Q, dq, (by simp only [OG.upd, d17, hg]; rfl), (HJ.out.1), (HJ.out.2)⟩
  · obtain ⟨Q, dq, rfl, hP0, hP1⟩ := hJ
    have d17 := hd.get 17 (by rfl)
    have HJ := Lib.hid (And.intro hP0 (hP1))
    clear hP0 hP1 hd hcl h0
    exact hK.out _ _ ⟨Q, dq, (by simp only [OG.upd, d17, hg, cond_false, Bool.cond_self]; rfl), (HJ.out.1), (HJ.out.2)⟩
  · obtain ⟨Q, dq, rfl, hP0, hP1⟩ := hJ
    have d18 := hd.get 18 (by rfl)
    have HJ := Lib.hid (And.intro hP0 (hP1))
    clear hP0 hP1 hd hcl h0
    have hx := (NB.out.below HJ.out.1 NB.out.lt).cell
    go_simp
    exact hK.out _ _ ⟨Q, dq, (by simp only [OG.upd, d18, hg]; rfl), (HJ.out.1), (HJ.out.2)⟩
  · obtain ⟨Q, dq, rfl, hP0, hP1⟩ := hJ
    have d18 := hd.get 18 (by rfl)
    have HJ := Lib.hid (And.intro hP0 (hP1))
    clear hP0 hP1 hd hcl h0
    exact hK.out _ _ ⟨Q, dq, (by simp only [OG.upd, d18, hg, cond_false, Bool.cond_self]; rfl), (HJ.out.1), (HJ.out.2)⟩
  · obtain ⟨Q, dq, rfl, hP0, hP1⟩ := hJ
    have HJ := Lib.hid (And.intro hP0 (hP1))
    clear hP0 hP1 hd hcl h0
    go_simp
    exact hK.out _ _ ⟨Q, dq, (by simp only [OG.upd, hg]; rfl), (HJ.out.1), (HJ.out.2)⟩
  · obtain ⟨Q, dq, rfl, hP0, hP1⟩ := hJ
    have HJ := Lib.hid (And.intro hP0 (hP1))
    clear hP0 hP1 hd hcl h0
    exact hK.out _ _ ⟨Q, dq, (by simp only [OG.upd, hg, cond_false, Bool.cond_self]; rfl), (HJ.out.1), (HJ.out.2)⟩
  · obtain ⟨Q, dq, rfl, hP0, hP1⟩ := hJ
    have d19 := hd.get 19 (by rfl)
    have d20 := hd.get 20 (by rfl)
    have HJ := Lib.hid (And.intro hP0 (hP1))
    clear hP0 hP1 hd hcl h0
    have e4 := E4.out hg
    go_simp
    exact hK.out _ _ ⟨Q, dq, (by simp only [OG.upd, d19, d20, hg, e4]; rfl), (HJ.out.1), (HJ.out.2)⟩
  · obtain ⟨Q, dq, rfl, hP0, hP1⟩ := hJ
    have d19 := hd.get 19 (by rfl)
    have d20 := hd.get 20 (by rfl)
    have HJ := Lib.hid (And.intro hP0 (hP1))
    clear hP0 hP1 hd hcl h0
    exact hK.out _ _ ⟨Q, dq, (by simp only [OG.upd, d19, d20, hg, cond_false, Bool.cond_self]; rfl), (HJ.out.1), (HJ.out.2)⟩
  · obtain ⟨Q, dq, rfl, hP0, hP1⟩ := hJ
    have d16 := hd.get 16 (by rfl)
    have d21 := hd.get 21 (by rfl)
    have HJ := Lib.hid (And.intro hP0 (hP1))
    clear hP0 hP1 hd hcl h0
    rcases Bool.eq_false_or_eq_true g3 with hg | hg
    · go_simp
      exact hK.out _ _ ⟨Q, dq, (by simp only [OG.upd, d16, d21, hg, cond_false, cond_true, Bool.cond_self]; rfl), (HJ.out.1), (HJ.out.2)⟩
    · have h2 := F4.out hg
      go_simp
      exact hK.out _ _ ⟨Q, dq, (by simp only [OG.upd, d16, d21, hg, h2, cond_false, cond_true, Bool.cond_self]; rfl), (HJ.out.1), (HJ.out.2)⟩
  · obtain ⟨Q, dq, rfl, hP0, hP1⟩ := hJ
    have d22 := hd.get 22 (by rfl)
    have HJ := Lib.hid (And.intro hP0 (hP1))
    clear hP0 hP1 hd hcl h0
    go_simp
    exact hK.out _ _ ⟨Q, dq, (by simp only [OG.upd, d22]; rfl), (HJ.out.1), (HJ.out.2)⟩
  · obtain ⟨Q, dq, rfl, hP0, hP1⟩ := hJ
    have HJ := Lib.hid (And.intro hP0 (hP1))
    clear hP0 hP1 hd hcl h0
    go_simp
    exact hK.out _ _ ⟨Q, dq, (by simp only [OG.upd, hg]; rfl), (HJ.out.1), (HJ.out.2)⟩
  · obtain ⟨Q, dq, rfl, hP0, hP1⟩ := hJ
    have HJ := Lib.hid (And.intro hP0 (hP1))
    clear hP0 hP1 hd hcl h0
    exact hK.out _ _ ⟨Q, dq, (by simp only [OG.upd, hg, cond_false, Bool.cond_self]; rfl), (HJ.out.1), (HJ.out.2)⟩
  · obtain ⟨Q, dq, rfl, hP0, hP1⟩ := hJ
    have d24 := hd.get 24 (by rfl)
    have HJ := Lib.hid (And.intro hP0 (hP1))
    clear hP0 hP1 hd hcl h0
    go_simp
    exact hK.out _ _ ⟨Q, dq, (by simp only [OG.upd, d24, hg]; rfl), (HJ.out.1), (HJ.out.2)⟩
  · obtain ⟨Q, dq, rfl, hP0, hP1⟩ := hJ
    have d24 := hd.get 24 (by rfl)
    have HJ := Lib.hid (And.intro hP0 (hP1))
    clear hP0 hP1 hd hcl h0
    exact hK.out _ _ ⟨Q, dq, (by simp only [OG.upd, d24, hg, cond_false, Bool.cond_self]; rfl), (HJ.out.1), (HJ.out.2)⟩
  · obtain ⟨Q, dq, rfl, hP0, hP1⟩ := hJ
    have d25 := hd.get 25 (by rfl)
    have HJ := Lib.hid (And.intro hP0 (hP1))
    clear hP0 hP1 hd hcl h0
    have hx := (NB.out.below HJ.out.1 NB.out.lt).cell
    go_simp
    exact hK.out _ _ ⟨Q, dq, (by simp only [OG.upd, d25, hg]; rfl), (HJ.out.1), (HJ.out.2)⟩
  · obtain ⟨Q, dq, rfl, hP0, hP1⟩ := hJ
    have d25 := hd.get 25 (by rfl)
    have HJ := Lib.hid (And.intro hP0 (hP1))
    clear hP0 hP1 hd hcl h0
    exact hK.out _ _ ⟨Q, dq, (by simp only [OG.upd, d25, hg, cond_false, Bool.cond_self]; rfl), (HJ.out.1), (HJ.out.2)⟩
  · obtain ⟨Q, dq, rfl, hP0, hP1⟩ := hJ
    have HJ := Lib.hid (And.intro hP0 (hP1))
    clear hP0 hP1 hd hcl h0
    go_simp
    exact hK.out _ _ ⟨Q, dq, (by simp only [OG.upd, hg]; rfl), (HJ.out.1), (HJ.out.2)⟩
  · obtain ⟨Q, dq, rfl, hP0, hP1⟩ := hJ
    have HJ := Lib.hid (And.intro hP0 (hP1))
    clear hP0 hP1 hd hcl h0
    exact hK.out _ _ ⟨Q, dq, (by simp only [OG.upd, hg, cond_false, Bool.cond_self]; rfl), (HJ.out.1), (HJ.out.2)⟩
  · obtain ⟨Q, dq, rfl, hP0, hP1⟩ := hJ
    have d26 := hd.get 26 (by rfl)
    have d27 := hd.get 27 (by rfl)
    have HJ := Lib.hid (And.intro hP0 (hP1))
    clear hP0 hP1 hd hcl h0
    have e5 := E5.out hg
    go_simp
    exact hK.out _ _ ⟨Q, dq, (by simp only [OG.upd, d26, d27, hg, e5]; rfl), (HJ.out.1), (HJ.out.2)⟩
  · obtain ⟨Q, dq, rfl, hP0, hP1⟩ := hJ
    have d26 := hd.get 26 (by rfl)
    have d27 := hd.get 27 (by rfl)
    have HJ := Lib.hid (And.intro hP0 (hP1))
    clear hP0 hP1 hd hcl h0
    exact hK.out _ _ ⟨Q, dq, (by simp only [OG.upd, d26, d27, hg, cond_false, Bool.cond_self]; rfl), (HJ.out.1), (HJ.out.2)⟩
  · obtain ⟨Q, dq, rfl, hP0, hP1⟩ := hJ
    have d23 := hd.get 23 (by rfl)
    have d28 := hd.get 28 (by rfl)
    have HJ := Lib.hid (And.intro hP0 (hP1))
    clear hP0 hP1 hd hcl h0
    rcases Bool.eq_false_or_eq_true g4 with hg | hg
    · go_simp
      exact hK.out _ _ ⟨Q, dq, (by simp only [OG.upd, d23, d28, hg, cond_false, cond_true, Bool.cond_self]; rfl), (HJ.out.1), (HJ.out.2)⟩
    · have h2 := F5.out hg
      go_simp
      exact hK.out _ _ ⟨Q, dq, (by simp only [OG.upd, d23, d28, hg, h2, cond_false, cond_true, Bool.cond_self]; rfl), (HJ.out.1), (HJ.out.2)⟩
  · obtain ⟨Q, dq, rfl, hP0, hP1⟩ := hJ
    have d29 := hd.get 29 (by rfl)
    have HJ := Lib.hid (And.intro hP0 (hP1))
    clear hP0 hP1 hd hcl h0
    go_simp
    exact hK.out _ _ ⟨Q, dq, (by simp only [OG.upd, d29]; rfl), (HJ.out.1), (HJ.out.2)⟩
  · obtain ⟨Q, dq, rfl, hP0, hP1⟩ := hJ
    have HJ := Lib.hid (And.intro hP0 (hP1))
    clear hP0 hP1 hd hcl h0
    go_simp
    exact hK.out _ _ ⟨Q, dq, (by simp only [OG.upd, hg]; rfl), (HJ.out.1), (HJ.out.2)⟩
  · obtain ⟨Q, dq, rfl, hP0, hP1⟩ := hJ
    have HJ := Lib.hid (And.intro hP0 (hP1))
    clear hP0 hP1 hd hcl h0
    exact hK.out _ _ ⟨Q, dq, (by simp only [OG.upd, hg, cond_false, Bool.cond_self]; rfl), (HJ.out.1), (HJ.out.2)⟩
  · obtain ⟨Q, dq, rfl, hP0, hP1⟩ := hJ
    have d31 := hd.get 31 (by rfl)
    have HJ := Lib.hid (And.intro hP0 (hP1))
    clear hP0 hP1 hd hcl h0
    have hx := (NB.out.below HJ.out.1 NB.out.lt).cell
    go_simp
    exact hK.out _ _ ⟨Q, dq, (by simp only [OG.upd, d31, hg]; rfl), (HJ.out.1), (HJ.out.2)⟩
  · obtain ⟨Q, dq, rfl, hP0, hP1⟩ := hJ
    have d31 := hd.get 31 (by rfl)
    have HJ := Lib.hid (And.intro hP0 (hP1))
    clear hP0 hP1 hd hcl h0
    exact hK.out _ _ ⟨Q, dq, (by simp only [OG.upd, d31, hg, cond_false, Bool.cond_self]; rfl), (HJ.out.1), (HJ.out.2)⟩
  · obtain ⟨Q, dq, rfl, hP0, hP1⟩ := hJ
    have HJ := Lib.hid (And.intro hP0 (hP1))
    clear hP0 hP1 hd hcl h0
    go_simp
    exact hK.out _ _ ⟨Q, dq, (by simp only [OG.upd, hg]; rfl), (HJ.out.1), (HJ.out.2)⟩
  · obtain ⟨Q, dq, rfl, hP0, hP1⟩ := hJ
    have HJ := Lib.hid (And.intro hP0 (hP1))
    clear hP0 hP1 hd hcl h0
    exact hK.out _ _ ⟨Q, dq, (by simp only [OG.upd, hg, cond_false, Bool.cond_self]; rfl), (HJ.out.1), (HJ.out.2)⟩
  · obtain ⟨Q, dq, rfl, hP0, hP1⟩ := hJ
    have d33 := hd.get 33 (by rfl)
    have HJ := Lib.hid (And.intro hP0 (hP1))
    clear hP0 hP1 hd hcl h0
    have hx := (NB.out.below HJ.out.1 NB.out.lt).cell
    go_simp
    exact hK.out _ _ ⟨Q, dq, (by simp only [OG.upd, d33, hg]; rfl), (HJ.out.1), (HJ.out.2)⟩
  · obtain ⟨Q, dq, rfl, hP0, hP1⟩ := hJ
    have d33 := hd.get 33 (by rfl)
    have HJ := Lib.hid (And.intro hP0 (hP1))
    clear hP0 hP1 hd hcl h0
    exact hK.out _ _ ⟨Q, dq, (by simp only [OG.upd, d33, hg, cond_false, Bool.cond_self]; rfl), (HJ.out.1), (HJ.out.2)⟩
  · obtain ⟨Q, dq, rfl, hP0, hP1⟩ := hJ
    have d34 := hd.get 34 (by rfl)
    have f36 := hcl.off 36 35 (by rfl) h0
    have HJ := Lib.hid (And.intro hP0 (hP1))
    clear hP0 hP1 hd hcl h0
    go_simp
    refine (T77.out hg _ HJ.out.1).mono ?_
    rintro e w' ⟨Q', dq', rfl, hq, hb⟩
    exact hK.out _ _ ⟨Q', dq', (by simp only [OG.upd, d34, f36, hg]; rfl), (HJ.out.1.trans (hb.mono HJ.out.1.size)), (fun _ _ => hq)⟩
  · obtain ⟨Q, dq, rfl, hP0, hP1⟩ := hJ
    have d34 := hd.get 34 (by rfl)
    have f36 := hcl.off 36 35 (by rfl) h0
    have HJ := Lib.hid (And.intro hP0 (hP1))
    clear hP0 hP1 hd hcl h0
    exact hK.out _ _ ⟨Q, dq, (by simp only [OG.upd, d34, f36, hg, cond_false, Bool.cond_self]; rfl), (HJ.out.1), (fun _ h => by rw [hg] at h; cases h)⟩
  · obtain ⟨Q, dq, rfl, hP0, hP1⟩ := hJ
    have d32 := hd.get 32 (by rfl)
    have d35 := hd.get 35 (by rfl)
    have HJ := Lib.hid (And.intro hP0 (hP1))
    clear hP0 hP1 hd hcl h0
    have hq := HJ.out.2 d35 hg
    go_simp
    refine (T76.out hg _ Q dq HJ.out.1 hq.1 hq.2).mono ?_
    rintro e w' ⟨rfl, hb⟩
    exact hK.out _ _ ⟨Q, dq, (by simp only [OG.upd, d32, d35, hg]; rfl), (HJ.out.1.trans (hb.mono HJ.out.1.size)), (fun h hg => ⟨(HJ.out.2 h hg).1.below hb, (HJ.out.2 h hg).2⟩)⟩
  · obtain ⟨Q, dq, rfl, hP0, hP1⟩ := hJ
    have d32 := hd.get 32 (by rfl)
    have d35 := hd.get 35 (by rfl)
    have HJ := Lib.hid (And.intro hP0 (hP1))
    clear hP0 hP1 hd hcl h0
    exact hK.out _ _ ⟨Q, dq, (by simp only [OG.upd, d32, d35, hg, cond_false, Bool.cond_self]; rfl), (HJ.out.1), (HJ.out.2)⟩
  · obtain ⟨Q, dq, rfl, hP0, hP1⟩ := hJ
    have d36 := hd.get 36 (by rfl)
    have HJ := Lib.hid (And.intro hP0 (hP1))
    clear hP0 hP1 hd hcl h0
    go_simp
    exact hK.out _ _ ⟨Q, dq, (by simp only [OG.upd, d36, hg]; rfl), (HJ.out.1), (HJ.out.2)⟩
  · obtain ⟨Q, dq, rfl, hP0, hP1⟩ := hJ
    have d36 := hd.get 36 (by rfl)
    have HJ := Lib.hid (And.intro hP0 (hP1))
    clear hP0 hP1 hd hcl h0
    exact hK.out _ _ ⟨Q, dq, (by simp only [OG.upd, d36, hg, cond_false, Bool.cond_self]; rfl), (HJ.out.1), (HJ.out.2)⟩
  · obtain ⟨Q, dq, rfl, hP0, hP1⟩ := hJ
    have d30 := hd.get 30 (by rfl)
    have d37 := hd.get 37 (by rfl)
    have HJ := Lib.hid (And.intro hP0 (hP1))
    clear hP0 hP1 hd hcl h0
    rcases Bool.eq_false_or_eq_true g5 with hg | hg
    · go_simp
      exact hK.out _ _ ⟨Q, dq, (by simp only [OG.upd, d30, d37, hg, cond_false, cond_true, Bool.cond_self]; rfl), (HJ.out.1), (HJ.out.2)⟩
    · have h2 := F6.out hg
      go_simp
      exact hK.out _ _ ⟨Q, dq, (by simp only [OG.upd, d30, d37, hg, h2, cond_false, cond_true, Bool.cond_self]; rfl), (HJ.out.1), (HJ.out.2)⟩
 case se =>
  intro l0 a w hJ he
  obtain ⟨Q, dq, rfl, hP0, hP1⟩ := hJ
  rw [he 0 (by decide), he 1 (by decide), he 2 (by decide), he 3 (by decide), he 4 (by decide), he 5 (by decide), he 6 (by decide), he 7 (by decide), he 8 (by decide), he 9 (by decide), he 10 (by decide), he 11 (by decide), he 12 (by decide), he 13 (by decide), he 14 (by decide), he 15 (by decide), he 16 (by decide), he 17 (by decide), he 18 (by decide), he 19 (by decide), he 20 (by decide), he 21 (by decide), he 22 (by decide), he 23 (by decide), he 24 (by decide), he 25 (by decide), he 26 (by decide), he 27 (by decide), he 28 (by decide), he 29 (by decide), he 30 (by decide), he 31 (by decide), he 32 (by decide), he 33 (by decide), he 34 (by decide), he 35 (by decide), he 36 (by decide), he 37 (by decide), he 38 (by decide)]
  have BE := Lib.hid (B0.out.trans (hP0.mono B0.out.size))
  have RX := Lib.hid (NB.out.below hP0 NB.out.lt)
  have RB := Lib.hid (HB.out.below (B0.out.trans (hP0.mono B0.out.size)))
  clear hP0 hP1 he NB B0 hx aaw aav T77 T76 E3 E4 E5 F2 F3 F4 F5 F6 G5 SH G6 HB HA KB
  simp only [cond_true]
  cases g6
  case false =>
   have HN := Lib.hid (GF.out rfl)
   go_wp2
   go_ret
   rw [decide_eq_false HN.out]
   exact ⟨rfl, BE.out⟩
  case true =>
  obtain ⟨n, e1, e2, e3, e4, h8, hl, htr⟩ := G7.out rfl
  have LN : Hid (l.length = n * n ∧ n ≤ 8) := Lib.hid ⟨hl, h8⟩
  have TP := Lib.hid htr
  clear hl h8 htr GF G7
  subst e1 e2 e3 e4
  simp only [Bool.not_true]
  have x0 := RX.out.cell
  go_wp2_with fail
  go_loop [48] (fun u => ∃ k : Nat, (k ≤ n ∧ ∀ i, i < k → 0 ≤ l.getD (i * n + i) 0) ∧ u = .int .i64 k) (fun u => n - (intOf u).toNat)
  case atStart => exact ⟨0, ⟨Nat.zero_le _, fun i hi => by omega⟩, rfl⟩
  case round =>
   obtain ⟨k, ⟨hk, hd⟩, rfl⟩ := hrel
   have HD := Lib.hid hd
   clear hd
   by_cases hlt : k < n
   · have hln := LN.out
     have n64 := YW hln.2
     have hlk := jQ hlt hlt
     obtain ⟨b, off, hBe, _, hcells⟩ := RB.out.cells (by omega)
     subst hBe
     have c1 := hcells (k * n + k) _ (gX (by omega))
     obtain ⟨q, hq⟩ : ∃ q, l.getD (k * n + k) 0 = q := ⟨_, rfl⟩
     rw [hq] at c1
     have HQ := Lib.hid hq
     obtain ⟨p, hp⟩ : ∃ p : Nat, k * n = p := ⟨_, rfl⟩
     have hp2 : (k : Int) * (n : Int) = (p : Int) := by rw [← hp]; push_cast; rfl
     rw [hp] at c1 hlk
     have hw1 : IntKind.i64.wrap ((k : Int) * (n : Int)) = (p : Int) := by rw [hp2]; simp [IntKind.wrap, IntKind.bits, IntKind.signed]; omega
     have hw2 : IntKind.i64.wrap ((p : Int) + (k : Int)) = ((p + k : Nat) : Int) := by simp [IntKind.wrap, IntKind.bits, IntKind.signed]; omega
     obtain ⟨j, hj⟩ : ∃ j : Nat, p + k = j := ⟨_, rfl⟩
     rw [hj] at c1 hlk hw2
     have hj0 : (0 : Int) ≤ (j : Int) := by omega
     have hj1 : (j : Int) < l.length := by omega
     have hk8 : k + 1 ≤ 8 := by omega
     have HK : Hid (k + 1 ≤ n ∧ n ≤ 8) := Lib.hid ⟨by omega, by omega⟩
     by_cases hq0 : q < 0
     · have e1 : decide (q < 0) = true := decide_eq_true hq0
       have HN : Hid (¬ gQ n 1 x n n l) := Lib.hid (fun h => by
        have h2 := TP.out.1 h k hlt (Nat.zero_le _)
        have h3 := HQ.out
        omega)
       clear hq hp hp2 hj hln n64 hlk hcells LN hq0
       go_wp2
       go_ret
       rw [decide_eq_false HN.out]
       exact ⟨rfl, BE.out⟩
     · have e1 : decide (q < 0) = false := decide_eq_false hq0
       have HD2 : Hid (∀ i, i < k + 1 → 0 ≤ l.getD (i * n + i) 0) := Lib.hid (fun i hi => by
        obtain rfl | h : i = k ∨ i < k := by omega
        · have := HQ.out
          omega
        · exact HD.out i h)
       clear hq hp hp2 hj hln n64 hlk hcells LN hq0 HD
       go_wp2
       go_round
       case rel => exact ⟨k + 1, ⟨HK.out.1, HD2.out⟩, by go_num⟩
       case measure => simp [intOf]; omega
   · have ht : gQ n 1 x n n l := TP.out.2 (fun i hi _ => HD.out i (by omega))
     have HT := Lib.hid ht
     clear ht
     go_wp2
     go_ret
     rw [decide_eq_true HT.out]
     exact ⟨rfl, BE.out⟩
end Go.Proofs.YtcfobekkchhbbaaGreat.PR

namespace Go.Proofs.YtcfobekkchhbbaaGreat.EE
open Go.RowKit Go.Proofs.YtcfobekkchhbbaaGreat.KK Go.Proofs.af.aQ Go.Proofs.af.a_ Go.Proofs.af.bg
set_option linter.unusedVariables false
set_option linter.unusedSimpArgs false
def Eg.vY (e : Eg) : Array Value := #[I e.t0.r, I e.t0.c, .slice e.t0.A e.t0.x.length e.t0.cx, I e.t0.r', I e.t0.c', .slice e.t0.B e.t0.p.length e.t0.cp,
    I e.t1.r, I e.t1.c, .slice e.t1.A e.t1.x.length e.t1.cx, I e.t1.r', I e.t1.c', .slice e.t1.B e.t1.p.length e.t1.cp,
    I e.t2.r, I e.t2.c, .slice e.t2.A e.t2.x.length e.t2.cx, I e.t2.r', I e.t2.c', .slice e.t2.B e.t2.p.length e.t2.cp]
def Eg.rest (e : Eg) : Bool := PQ.iw (PQ.at4 e.q0 e.q1 e.q2 e.q3) 4 && decide (0 ≤ e.steps) && decide (e.steps ≤ 1099511627776) && !fU e.dM && !([e.f0, e.f1, e.f2, e.f3].any fU)
theorem Eg.Tn (e : Eg) (h0 : e.t0.ok = true) (h1 : e.t1.ok = true) (h2 : e.t2.ok = true) : e.ok = e.rest := by
 unfold Eg.ok Eg.rest Eg.t3 Eg.n0 Eg.o4
 rw [h0, h1, h2]
 have a1 : decide (e.steps < 0) = !decide (0 ≤ e.steps) := by by_cases h : 0 ≤ e.steps <;> simp [h] <;> omega
 have a2 : decide (e.steps > 1099511627776) = !decide (e.steps ≤ 1099511627776) := by by_cases h : e.steps ≤ 1099511627776 <;> simp [h] <;> omega
 have a3 : fU e.dM = (decide (e.dM < 0) || decide (e.dM > 1000)) := rfl
 rw [a1, a2, a3]
 simp only [List.any_cons, List.any_nil]
 generalize fU e.f0 = a, fU e.f1 = b, fU e.f2 = c, fU e.f3 = d, decide (0 ≤ e.steps) = s, decide (e.steps ≤ 1099511627776) = t, decide (e.dM < 0) = u, decide (e.dM > 1000) = v, PQ.iw (PQ.at4 e.q0 e.q1 e.q2 e.q3) 4 = r
 revert a b c d s t u v r
 decide
theorem Eg.yA (e : Eg) (k : Nat) (hk : k < 3) (h : (e.t k).ok = false) : e.ok = false := by
 have : e.t3 = false := by
  obtain rfl | rfl | rfl : k = 0 ∨ k = 1 ∨ k = 2 := by omega
  · show (e.t0.ok && _) = false
    rw [show e.t0.ok = false from h]
    rfl
  · show (e.t0.ok && (e.t1.ok && _)) = false
    rw [show e.t1.ok = false from h]
    simp
  · show (e.t0.ok && (e.t1.ok && e.t2.ok)) = false
    rw [show e.t2.ok = false from h]
    simp
 unfold Eg.ok
 rw [this]
 simp
theorem Cc (e : Eg) (w : World) (hr : ∀ j, j < 3 → vU w (e.t j)) :
 Calls Tryz.prog 15 #[.agg e.R] w fun x w' => x = .returned (.bool e.ok) ∧ Below w.heap.size w w' := by
 have HK : Hid (∀ j, j < 3 → ∀ w', Below w.heap.size w w' → Calls Tryz.prog 39 #[.agg (e.t j).row] w' fun x w'' => x = .returned (.bool (decide (PR.gQ (e.t j).r (e.t j).c (e.t j).x (e.t j).r' (e.t j).c' (e.t j).p))) ∧ Below w'.heap.size w' w'') := Lib.hid (fun j hj w' hb =>
  PR.Bi (e.t j).r (e.t j).c (e.t j).A (e.t j).cx (e.t j).x (e.t j).r' (e.t j).c' (e.t j).B (e.t j).cp (e.t j).p w' ((hr j hj).x.below hb) ((hr j hj).p.below hb) (hr j hj).pd)
 have L : Hid (bD w [(35, e.R)] (w.alloc (.cells e.R 35))) := Lib.hid ((bD.none w).push (by simp) _ _)
 clear hr
 go_enter Tryz.func15, Tryz.ntmps15
 go_upto_region 1 with fail
 generalize (w.alloc (.cells e.R 35)) = w1 at L ⊢
 have RA := Lib.hid (Row.range L.out.r0 4 e.vY.toList (by kernel_rfl))
 have i34 := Lib.hid (show (Tryz.prog.info? 32).map (·.size) = some e.vY.toList.length by kernel_rfl)
 go_wp2_with (with_reducible refine wpList_load_mid rfl 32 (.tmp 6) rfl w.heap.size 4 rfl e.vY.toList _ RA.out Tryz.underlying32 rfl i34.out ?_)
 clear RA i34
 have IX : Hid ((∀ w', (Instr.index 32 (.agg e.vY) (.int .i64 0)).run Tryz.prog w' = .ok (.agg e.t0.row) w') ∧ (∀ w', (Instr.index 32 (.agg e.vY) (.int .i64 1)).run Tryz.prog w' = .ok (.agg e.t1.row) w') ∧ (∀ w', (Instr.index 32 (.agg e.vY) (.int .i64 2)).run Tryz.prog w' = .ok (.agg e.t2.row) w')) := Lib.hid ⟨fun w' => by kernel_rfl, fun w' => by kernel_rfl, fun w' => by kernel_rfl⟩
 go_loopw [8] (fun i wl => ∃ k : Nat, k ≤ 3 ∧ i = .int .i64 k ∧ Hid (bD w [(35, e.R)] wl) ∧ Hid (∀ j, j < k → (e.t j).ok = true)) (fun i _ => 3 - (intOf i).toNat)
 case atStart => exact ⟨0, by omega, rfl, L, Lib.hid (fun j hj => by omega)⟩
 case round =>
  clear L
  obtain ⟨k, hk, rfl, L, Sz⟩ := hrel
  obtain rfl | rfl | rfl | rfl : k = 3 ∨ k = 0 ∨ k = 1 ∨ k = 2 := by omega
  · have RS := Lib.hid (e.Tn (Sz.out 0 (by decide)) (Sz.out 1 (by decide)) (Sz.out 2 (by decide)))
    clear Sz
    have hc : ∀ i, wr.cell? ⟨w.heap.size, i, none⟩ = e.row[i]? := L.out.r0.cell
    go_wp2_with fail
    refine (PQ.jG e.q0 e.q1 e.q2 e.q3 _).mono ?_
    rintro x w5 ⟨rfl, hb⟩
    have L5 := Lib.hid (L.out.below hb)
    clear hb hc L HK IX
    have hc : ∀ i, w5.cell? ⟨w.heap.size, i, none⟩ = e.row[i]? := L5.out.r0.cell
    cases h1 : PQ.iw (PQ.at4 e.q0 e.q1 e.q2 e.q3) 4
    · go_wp2
      go_ret
      exact ⟨by rw [RS.out]; simp [Eg.rest, h1], L5.out.be⟩
    cases h2 : decide (e.steps ≥ 0)
    · go_wp2
      go_ret
      exact ⟨by rw [RS.out]; simp only [Eg.rest, h1, show decide (0 ≤ e.steps) = false from h2]; rfl, L5.out.be⟩
    cases h3 : decide (e.steps ≤ 1099511627776)
    · go_wp2
      go_ret
      exact ⟨by rw [RS.out]; simp only [Eg.rest, h1, h3, show decide (0 ≤ e.steps) = true from h2]; rfl, L5.out.be⟩
    go_wp2_with fail
    refine (wY e.dM _).mono ?_
    rintro x w6 ⟨rfl, hb⟩
    have L6 := Lib.hid (L5.out.below hb)
    clear hb hc L5
    have hc : ∀ i, w6.cell? ⟨w.heap.size, i, none⟩ = e.row[i]? := L6.out.r0.cell
    cases h4 : fU e.dM
    case true =>
     go_wp2
     go_ret
     exact ⟨by rw [RS.out]; simp only [Eg.rest, h1, h3, h4, show decide (0 ≤ e.steps) = true from h2]; rfl, L6.out.be⟩
    go_wp2_with fail
    refine (wJ (some ⟨w.heap.size, 24, none⟩) 4 [e.f0, e.f1, e.f2, e.f3] w6 (Rd.part L6.out.r0 (by simp) (fun j x hx => ?_)) (by simp)).mono ?_
    · match j, hx with
      | 0, hx => injection hx with hx; subst hx; rfl
      | 1, hx => injection hx with hx; subst hx; rfl
      | 2, hx => injection hx with hx; subst hx; rfl
      | 3, hx => injection hx with hx; subst hx; rfl
      | j + 4, hx => simp at hx
    rintro x w7 ⟨rfl, hb⟩
    have L7 := Lib.hid (L6.out.below hb)
    clear hb hc L6
    go_wp2
    go_ret
    have hE : (!fU e.f0 && (!fU e.f1 && (!fU e.f2 && !fU e.f3))) = !([e.f0, e.f1, e.f2, e.f3].any fU) := by
     simp only [List.any_cons, List.any_nil]
     generalize fU e.f0 = a, fU e.f1 = b, fU e.f2 = c, fU e.f3 = d
     revert a b c d
     decide
    have hR : e.rest = (!fU e.f0 && (!fU e.f1 && (!fU e.f2 && !fU e.f3))) := by
     rw [hE]
     simp only [Eg.rest, h1, h3, h4, show decide (0 ≤ e.steps) = true from h2]
     rfl
    exact ⟨by rw [RS.out, hR]; rfl, L7.out.be⟩
  · have ix := IX.out.1
    have z0 := L.out.r0.lt
    go_wp2_with fail
    refine (HK.out 0 (by decide) _ (L.out.alloc _).be).mono ?_
    rintro x w5 ⟨rfl, hb⟩
    have L5 := Lib.hid ((L.out.alloc _).below hb)
    have R5 := Lib.hid (Row.below (Row.new wr 31 e.t0.row) hb (Row.new wr 31 e.t0.row).lt)
    clear hb L
    have c5 : w5.cell? ⟨wr.heap.size, 0, none⟩ = some (I e.t0.r) := R5.out.cell 0
    have OK : Hid ((e.t 0).ok = (decide (PR.gQ (e.t 0).r (e.t 0).c (e.t 0).x (e.t 0).r' (e.t 0).c' (e.t 0).p) && decide (e.t0.r = 3))) := Lib.hid rfl
    generalize decide (PR.gQ (e.t 0).r (e.t 0).c (e.t 0).x (e.t 0).r' (e.t 0).c' (e.t 0).p) = tp at OK ⊢
    cases tp
    case false =>
     have NO : Hid (e.ok = false) := Lib.hid (e.yA 0 (by decide) (by rw [OK.out]; rfl))
     go_wp2
     exact bodyPost_ret (results_tmp rfl _ _ _) rfl ⟨by rw [NO.out]; rfl, L5.out.be⟩
    by_cases h3 : e.t0.r = 3
    case neg =>
     have NO : Hid (e.ok = false) := Lib.hid (e.yA 0 (by decide) (by rw [OK.out, decide_eq_false h3]; rfl))
     have d3 : (e.t0.r != 3) = true := by rw [bne_iff_ne]; exact h3
     clear h3
     go_wp2
     exact bodyPost_ret (results_tmp rfl _ _ _) rfl ⟨by rw [NO.out]; rfl, L5.out.be⟩
    have Wl : Hid (∀ j, j < 0 + 1 → (e.t j).ok = true) := Lib.hid (fun j hj => by
     obtain rfl | h : j = 0 ∨ j < 0 := by omega
     · rw [OK.out, h3]; rfl
     · exact Sz.out j h)
    have d3 : (e.t0.r != 3) = false := by rw [h3]; rfl
    clear h3 OK Sz
    go_wp2
    go_roundw
    case rel => exact ⟨0 + 1, by omega, by go_num, L5, Wl⟩
    case measure => simp [intOf]
  · have ix := IX.out.2.1
    have z0 := L.out.r0.lt
    go_wp2_with fail
    refine (HK.out 1 (by decide) _ (L.out.alloc _).be).mono ?_
    rintro x w5 ⟨rfl, hb⟩
    have L5 := Lib.hid ((L.out.alloc _).below hb)
    have R5 := Lib.hid (Row.below (Row.new wr 31 e.t1.row) hb (Row.new wr 31 e.t1.row).lt)
    clear hb L
    have c5 : w5.cell? ⟨wr.heap.size, 0, none⟩ = some (I e.t1.r) := R5.out.cell 0
    have OK : Hid ((e.t 1).ok = (decide (PR.gQ (e.t 1).r (e.t 1).c (e.t 1).x (e.t 1).r' (e.t 1).c' (e.t 1).p) && decide (e.t1.r = 3))) := Lib.hid rfl
    generalize decide (PR.gQ (e.t 1).r (e.t 1).c (e.t 1).x (e.t 1).r' (e.t 1).c' (e.t 1).p) = tp at OK ⊢
    cases tp
    case false =>
     have NO : Hid (e.ok = false) := Lib.hid (e.yA 1 (by decide) (by rw [OK.out]; rfl))
     go_wp2
     exact bodyPost_ret (results_tmp rfl _ _ _) rfl ⟨by rw [NO.out]; rfl, L5.out.be⟩
    by_cases h3 : e.t1.r = 3
    case neg =>
     have NO : Hid (e.ok = false) := Lib.hid (e.yA 1 (by decide) (by rw [OK.out, decide_eq_false h3]; rfl))
     have d3 : (e.t1.r != 3) = true := by rw [bne_iff_ne]; exact h3
     clear h3
     go_wp2
     exact bodyPost_ret (results_tmp rfl _ _ _) rfl ⟨by rw [NO.out]; rfl, L5.out.be⟩
    have Wl : Hid (∀ j, j < 1 + 1 → (e.t j).ok = true) := Lib.hid (fun j hj => by
     obtain rfl | h : j = 1 ∨ j < 1 := by omega
     · rw [OK.out, h3]; rfl
     · exact Sz.out j h)
    have d3 : (e.t1.r != 3) = false := by rw [h3]; rfl
    clear h3 OK Sz
    go_wp2
    go_roundw
    case rel => exact ⟨1 + 1, by omega, by go_num, L5, Wl⟩
    case measure => simp [intOf]
  · have ix := IX.out.2.2
    have z0 := L.out.r0.lt
    go_wp2_with fail
    refine (HK.out 2 (by decide) _ (L.out.alloc _).be).mono ?_
    rintro x w5 ⟨rfl, hb⟩
    have L5 := Lib.hid ((L.out.alloc _).below hb)
    have R5 := Lib.hid (Row.below (Row.new wr 31 e.t2.row) hb (Row.new wr 31 e.t2.row).lt)
    clear hb L
    have c5 : w5.cell? ⟨wr.heap.size, 0, none⟩ = some (I e.t2.r) := R5.out.cell 0
    have OK : Hid ((e.t 2).ok = (decide (PR.gQ (e.t 2).r (e.t 2).c (e.t 2).x (e.t 2).r' (e.t 2).c' (e.t 2).p) && decide (e.t2.r = 3))) := Lib.hid rfl
    generalize decide (PR.gQ (e.t 2).r (e.t 2).c (e.t 2).x (e.t 2).r' (e.t 2).c' (e.t 2).p) = tp at OK ⊢
    cases tp
    case false =>
     have NO : Hid (e.ok = false) := Lib.hid (e.yA 2 (by decide) (by rw [OK.out]; rfl))
     go_wp2
     exact bodyPost_ret (results_tmp rfl _ _ _) rfl ⟨by rw [NO.out]; rfl, L5.out.be⟩
    by_cases h3 : e.t2.r = 3
    case neg =>
     have NO : Hid (e.ok = false) := Lib.hid (e.yA 2 (by decide) (by rw [OK.out, decide_eq_false h3]; rfl))
     have d3 : (e.t2.r != 3) = true := by rw [bne_iff_ne]; exact h3
     clear h3
     go_wp2
     exact bodyPost_ret (results_tmp rfl _ _ _) rfl ⟨by rw [NO.out]; rfl, L5.out.be⟩
    have Wl : Hid (∀ j, j < 2 + 1 → (e.t j).ok = true) := Lib.hid (fun j hj => by
     obtain rfl | h : j = 2 ∨ j < 2 := by omega
     · rw [OK.out, h3]; rfl
     · exact Sz.out j h)
    have d3 : (e.t2.r != 3) = false := by rw [h3]; rfl
    clear h3 OK Sz
    go_wp2
    go_roundw
    case rel => exact ⟨2 + 1, by omega, by go_num, L5, Wl⟩
    case measure => simp [intOf]
end Go.Proofs.YtcfobekkchhbbaaGreat.EE

namespace Go.Proofs.YtcfobekkchhbbaaGreat.EE
open Go.RowKit Go.Proofs.YtcfobekkchhbbaaGreat.KK Go.Proofs.af.aQ Go.Proofs.af.a_ Go.Proofs.af.bg
set_option linter.unusedVariables false
set_option linter.unusedSimpArgs false
theorem Qb {w : World} {B : Nat} {t : TypeId} {C : Array Value} (R : Row w B t C) (o : Nat) (vs : List Value) (D : Array Value) (h : qY C.toList o vs = D.toList) : Row (w.setCells B o vs) B t D := by
 obtain ⟨arr, h1, h2⟩ := KK.Row.setCells vs o w C R
 rw [h] at h2
 have : arr = D := Array.toList_inj.mp h2
 rwa [this] at h1
structure Sq (l : List Int) (A : Option Addr) (c : Nat) (w0 W : World) (k : Nat) (cs : Array Value) : Prop where
 at_ : Row W (w0.heap.size + 2) 3 #[I (k : Int)]
 sl : Row W w0.heap.size 46 #[.slice A l.length c]
 e : Row W (w0.heap.size + 3) 35 cs
 z : Row W (w0.heap.size + 1) 35 zE
 be : Below w0.heap.size w0 W
def Far (b : Nat) (W W' : World) : Prop := W'.heap.size ≥ W.heap.size ∧ ∀ g, g ≠ b → g < W.heap.size → W'.heap[g]? = W.heap[g]?
theorem Far.row {b : Nat} {W W' : World} (h : Far b W W') {g : Nat} {t : TypeId} {cs : Array Value} (hg : g ≠ b) (R : Row W g t cs) : Row W' g t cs := (h.2 g hg R.lt).trans R
theorem Kt {l : List Int} {A : Option Addr} {c : Nat} {w0 W : World} {k : Nat} {cs : Array Value} (S : Sq l A c w0 W k cs) (hl : Rd w0 A l) {v : Int} (hv : l[k]? = some v) (h38 : l.length ≤ 100) :
 Calls Tryz.prog 44 #[.pointer (some ⟨w0.heap.size + 2, 0, none⟩), .pointer (some ⟨w0.heap.size, 0, none⟩)] W fun x W' => x = .returned (I v) ∧ Sq l A c w0 W' (k + 1) cs ∧ Far (w0.heap.size + 2) W W' := by
 have hk := (List.getElem?_eq_some_iff.1 hv).1
 obtain ⟨b, off, rfl, hb, hcells⟩ := (hl.below S.be).cells (by omega)
 have hc := hcells k v hv
 have c0 := S.at_.cell 0
 have f0 := S.at_.free 0
 have c1 := S.sl.cell 0
 have HS := Lib.hid S
 have hne : b ≠ w0.heap.size + 2 := by
  have h1 := PR.Rd.blk hl _ rfl (by omega)
  have h2 : b < w0.heap.size := h1
  omega
 have hw : IntKind.i64.wrap ((k : Int) + 1) = ((k + 1 : Nat) : Int) := by rw [IntWalk.i64_in _ (by omega)]; omega
 have hs : IntKind.i64.wrap ((k : Int) + 1 - 1) = (k : Int) := by rw [IntWalk.i64_in _ (by omega)]; omega
 have hs2 : IntKind.i64.wrap (k : Int) = (k : Int) := IntWalk.i64_in _ (by omega)
 have g0 : (0 : Int) ≤ (k : Int) := by omega
 have g1 : (k : Int) < (l.length : Int) := by omega
 clear hcells S hb
 go_enter Tryz.func44, Tryz.ntmps44
 go_wp2
 refine bodyPost_ret (results_tmp rfl _ _ _) rfl ⟨rfl, ⟨Row.put HS.out.at_ 0 _ _ rfl, Row.far HS.out.sl (show w0.heap.size ≠ w0.heap.size + 2 by omega) _, Row.far HS.out.e (show w0.heap.size + 3 ≠ w0.heap.size + 2 by omega) _, Row.far HS.out.z (show w0.heap.size + 1 ≠ w0.heap.size + 2 by omega) _, HS.out.be.setCell (p := ⟨w0.heap.size + 2, 0, none⟩) (show w0.heap.size ≤ w0.heap.size + 2 by omega) _⟩, ?_⟩
 exact ⟨(cO (fE W (some (w0.heap.size + 2))) 0 _).size, fun g hg _ => Below.heap_setCell W ⟨w0.heap.size + 2, 0, none⟩ _ g hg⟩
section
variable {l : List Int} {A : Option Addr} {c : Nat} {w0 W W' : World} {k : Nat} {cs : Array Value}
theorem Sq.alloc (S : Sq l A c w0 W k cs) (o : Obj) : Sq l A c w0 (W.alloc o) k cs := ⟨S.at_.alloc o, S.sl.alloc o, S.e.alloc o, S.z.alloc o, S.be.alloc S.be.size o⟩
theorem Sq.set (S : Sq l A c w0 W k cs) (i : Nat) (u : Value) : Sq l A c w0 (W.setCell ⟨w0.heap.size + 3, i, none⟩ u) k (cs.setIfInBounds i u) :=
 ⟨Row.far S.at_ (show w0.heap.size + 2 ≠ w0.heap.size + 3 by omega) _, Row.far S.sl (show w0.heap.size ≠ w0.heap.size + 3 by omega) _, Row.set S.e i u, Row.far S.z (show w0.heap.size + 1 ≠ w0.heap.size + 3 by omega) _, S.be.setCell (p := ⟨w0.heap.size + 3, i, none⟩) (show w0.heap.size ≤ w0.heap.size + 3 by omega) _⟩
theorem Sq.cells (S : Sq l A c w0 W k cs) (o : Nat) (vs : List Value) (D : Array Value) (h : qY cs.toList o vs = D.toList) : Sq l A c w0 (W.setCells (w0.heap.size + 3) o vs) k D :=
 ⟨(OG.fZ vs o W _ (by omega)).trans S.at_, (OG.fZ vs o W _ (by omega)).trans S.sl, Qb S.e o vs D h, (OG.fZ vs o W _ (by omega)).trans S.z, KK.dA _ _ _ S.be (by omega)⟩
end
end Go.Proofs.YtcfobekkchhbbaaGreat.EE

namespace Go.Proofs.YtcfobekkchhbbaaGreat.EE
open Go.RowKit Go.Proofs.YtcfobekkchhbbaaGreat.KK Go.Proofs.af.aQ Go.Proofs.af.a_ Go.Proofs.af.bg
set_option linter.unusedVariables false
set_option linter.unusedSimpArgs false
def Tt (l : List Int) : Nat → Array Value
 | 0 => zE
 | k + 1 => (Tt l k).setIfInBounds k (I (l.getD k 0))
theorem tJ (l : List Int) : ∀ k, (Tt l k).size = 29
 | 0 => rfl
 | k + 1 => by rw [Tt, Array.size_setIfInBounds, tJ l k]
def qZ (l : List Int) (j : Nat) (x : Nat × Nat) : Tg := ⟨3, 1, some ⟨x.1, 0, none⟩, 3, [l.getD (4 + 9 * j) 0, l.getD (4 + 9 * j + 1) 0, l.getD (4 + 9 * j + 2) 0], 3, 3, some ⟨x.2, 0, none⟩, 9,
 [l.getD (4 + 9 * j + 3) 0, l.getD (4 + 9 * j + 4) 0, l.getD (4 + 9 * j + 5) 0, l.getD (4 + 9 * j + 4) 0, l.getD (4 + 9 * j + 6) 0, l.getD (4 + 9 * j + 7) 0, l.getD (4 + 9 * j + 5) 0, l.getD (4 + 9 * j + 7) 0, l.getD (4 + 9 * j + 8) 0]⟩
theorem VO {α : Type} {l : List α} (h : l.length = 3) : ∃ a b c, l = [a, b, c] := by
 match l, h with
 | [a, b, c], _ => exact ⟨a, b, c, rfl⟩
theorem Ij {w : World} {b : Nat} {t : TypeId} {C : Array Value} (h : Row w b t C) (o n : Nat) (hn : o + n ≤ C.size) : w.there b o n := fun j hj => by
 refine ⟨?_, h.free _⟩
 rw [h.cell]
 simp
 omega
def OfT (l : List Int) (j : Nat) (t : Tg) : Prop := t.r = 3 ∧ t.c = 1 ∧ t.x = [l.getD (4 + 9 * j) 0, l.getD (4 + 9 * j + 1) 0, l.getD (4 + 9 * j + 2) 0] ∧ t.r' = 3 ∧ t.c' = 3 ∧
 t.p = [l.getD (4 + 9 * j + 3) 0, l.getD (4 + 9 * j + 4) 0, l.getD (4 + 9 * j + 5) 0, l.getD (4 + 9 * j + 4) 0, l.getD (4 + 9 * j + 6) 0, l.getD (4 + 9 * j + 7) 0, l.getD (4 + 9 * j + 5) 0, l.getD (4 + 9 * j + 7) 0, l.getD (4 + 9 * j + 8) 0]
def r3 (l : List Int) (j : Nat) : Array Value := #[I (l.getD (4 + 9 * j) 0), I (l.getD (4 + 9 * j + 1) 0), I (l.getD (4 + 9 * j + 2) 0)]
def r9 (l : List Int) (j : Nat) : Array Value := #[I (l.getD (4 + 9 * j + 3) 0), I (l.getD (4 + 9 * j + 4) 0), I (l.getD (4 + 9 * j + 5) 0), I (l.getD (4 + 9 * j + 4) 0), I (l.getD (4 + 9 * j + 6) 0), I (l.getD (4 + 9 * j + 7) 0), I (l.getD (4 + 9 * j + 5) 0), I (l.getD (4 + 9 * j + 7) 0), I (l.getD (4 + 9 * j + 8) 0)]
def YG (x : Nat × Nat) : Array Value := #[.int .i64 3, .int .i64 1, .slice (some ⟨x.1, 0, none⟩) 3 3, .int .i64 3, .int .i64 3, .slice (some ⟨x.2, 0, none⟩) 9 9]
def Sl (l : List Int) (ax : List (Nat × Nat)) : Array Value := ax.zipIdx.foldl (fun a x => (qY a.toList (4 + x.2 * 6) (YG x.1).toList).toArray) (Tt l 4)
theorem Tq (l : List Int) (ax : List (Nat × Nat)) (x : Nat × Nat) : Sl l (ax ++ [x]) = (qY (Sl l ax).toList (4 + ax.length * 6) (YG x).toList).toArray := by
 simp [Sl, List.zipIdx_append, List.foldl_append]
def Qc (l : List Int) (ax : List (Nat × Nat)) : Nat → Array Value
 | 0 => ((Sl l ax).setIfInBounds 22 (I (l.getD 31 0))).setIfInBounds 23 (I (l.getD 32 0))
 | k + 1 => (Qc l ax k).setIfInBounds (24 + k) (I (l.getD (33 + k) 0))
theorem Bg : ∀ (vs : List Value) (l : List Value) (o : Nat), (qY l o vs).length = l.length
 | [], l, o => rfl
 | v :: vs, l, o => by rw [qY, Bg vs, List.length_set]
theorem VX (l : List Int) : ∀ (xs : List ((Nat × Nat) × Nat)) (a : Array Value), a.size = 29 → (xs.foldl (fun a x => (qY a.toList (4 + x.2 * 6) (YG x.1).toList).toArray) a).size = 29
 | [], a, h => h
 | x :: xs, a, h => VX l xs _ (by rw [List.size_toArray, Bg, Array.length_toList, h])
theorem Bo (l : List Int) (ax : List (Nat × Nat)) : (Sl l ax).size = 29 := VX l _ _ (tJ l 4)
theorem Bl (l : List Int) (ax : List (Nat × Nat)) : ∀ k, (Qc l ax k).size = 29
 | 0 => by rw [Qc, Array.size_setIfInBounds, Array.size_setIfInBounds, Bo]
 | k + 1 => by rw [Qc, Array.size_setIfInBounds, Bl l ax k]
def PD (l : List Int) (n : Nat) (W : World) (ax : List (Nat × Nat)) : Prop := ∀ j x, ax[j]? = some x → (n ≤ x.1 ∧ n ≤ x.2) ∧ Row W x.1 22 (r3 l j) ∧ Row W x.2 22 (r9 l j)
theorem PD.keep {l : List Int} {n : Nat} {W W' : World} {ax : List (Nat × Nat)} (h : PD l n W ax) (hk : ∀ g t cs, n ≤ g → Row W g t cs → Row W' g t cs) : PD l n W' ax := fun j x hx =>
 ⟨(h j x hx).1, hk _ _ _ (h j x hx).1.1 (h j x hx).2.1, hk _ _ _ (h j x hx).1.2 (h j x hx).2.2⟩
theorem PD.snoc {l : List Int} {n : Nat} {W : World} {ax : List (Nat × Nat)} (h : PD l n W ax) {x : Nat × Nat} (h1 : n ≤ x.1 ∧ n ≤ x.2) (h2 : Row W x.1 22 (r3 l ax.length)) (h3 : Row W x.2 22 (r9 l ax.length)) : PD l n W (ax ++ [x]) := fun j y hy => by
 rcases Nat.lt_trichotomy j ax.length with hj | hj | hj
 · rw [List.getElem?_append_left hj] at hy
   exact h j y hy
 · subst hj
   simp at hy
   subst hy
   exact ⟨h1, h2, h3⟩
 · rw [List.getElem?_eq_none (by simp; omega)] at hy
   cases hy
structure Ic (l : List Int) (e : Eg) : Prop where
 q0 : e.q0 = l.getD 0 0
 q1 : e.q1 = l.getD 1 0
 q2 : e.q2 = l.getD 2 0
 q3 : e.q3 = l.getD 3 0
 t0 : OfT l 0 e.t0
 t1 : OfT l 1 e.t1
 t2 : OfT l 2 e.t2
 st : e.steps = l.getD 31 0
 co : e.dM = l.getD 32 0
 f0 : e.f0 = l.getD 33 0
 f1 : e.f1 = l.getD 34 0
 f2 : e.f2 = l.getD 35 0
 f3 : e.f3 = l.getD 36 0
 sa : e.sat = (l.getD 37 0 == 1)
 len : l.length = 38
 last : l.getD 37 0 = 0 ∨ l.getD 37 0 = 1
theorem Ic.same {l : List Int} {a b : Eg} (h : Ic l a) (g : Ic l b) : a.ok = b.ok := by
 obtain ⟨t1, t2, t3, t4, t5, t6⟩ := h.t0
 obtain ⟨u1, u2, u3, u4, u5, u6⟩ := h.t1
 obtain ⟨v1, v2, v3, v4, v5, v6⟩ := h.t2
 obtain ⟨p1, p2, p3, p4, p5, p6⟩ := g.t0
 obtain ⟨q1, q2, q3, q4, q5, q6⟩ := g.t1
 obtain ⟨r1, r2, r3, r4, r5, r6⟩ := g.t2
 have e0 : a.t0.ok = b.t0.ok := by unfold Tg.ok; simp only [t1, t2, t3, t4, t5, t6, p1, p2, p3, p4, p5, p6]
 have e1 : a.t1.ok = b.t1.ok := by unfold Tg.ok; simp only [u1, u2, u3, u4, u5, u6, q1, q2, q3, q4, q5, q6]
 have e2 : a.t2.ok = b.t2.ok := by unfold Tg.ok; simp only [v1, v2, v3, v4, v5, v6, r1, r2, r3, r4, r5, r6]
 unfold Eg.ok Eg.n0 Eg.o4 Eg.t3
 rw [e0, e1, e2, h.q0, h.q1, h.q2, h.q3, h.st, h.co, h.f0, h.f1, h.f2, h.f3, g.q0, g.q1, g.q2, g.q3, g.st, g.co, g.f0, g.f1, g.f2, g.f3]
theorem Y0 (l : List Int) (xa xb xc : Nat × Nat) (h : l.length = 38) (h1 : l.getD 37 0 = 0 ∨ l.getD 37 0 = 1) : Ic l ⟨l.getD 0 0, l.getD 1 0, l.getD 2 0, l.getD 3 0, qZ l 0 xa, qZ l 1 xb, qZ l 2 xc, l.getD 31 0, l.getD 32 0, l.getD 33 0, l.getD 34 0, l.getD 35 0, l.getD 36 0, l.getD 37 0 == 1⟩ :=
 ⟨rfl, rfl, rfl, rfl, ⟨rfl, rfl, rfl, rfl, rfl, rfl⟩, ⟨rfl, rfl, rfl, rfl, rfl, rfl⟩, ⟨rfl, rfl, rfl, rfl, rfl, rfl⟩, rfl, rfl, rfl, rfl, rfl, rfl, rfl, h, h1⟩
theorem P_ {l : List Int} {n : Nat} {W : World} {xa xb xc : Nat × Nat} (h : PD l n W [xa, xb, xc]) : ∀ j, j < 3 → vU W ((⟨l.getD 0 0, l.getD 1 0, l.getD 2 0, l.getD 3 0, qZ l 0 xa, qZ l 1 xb, qZ l 2 xc, l.getD 31 0, l.getD 32 0, l.getD 33 0, l.getD 34 0, l.getD 35 0, l.getD 36 0, l.getD 37 0 == 1⟩ : Eg).t j) := by
 have key : ∀ j x, [xa, xb, xc][j]? = some x → vU W (qZ l j x) := fun j x hx => by
  obtain ⟨_, r1, r2⟩ := h j x hx
  refine ⟨Rd.part r1 (by simp [qZ]) (fun i v hv => ?_), by simp [qZ], Rd.part r2 (by simp [qZ]) (fun i v hv => ?_), by simp [qZ]⟩
  · match i, hv with
    | 0, hv => injection hv with hv; subst hv; rfl
    | 1, hv => injection hv with hv; subst hv; rfl
    | 2, hv => injection hv with hv; subst hv; rfl
    | i + 3, hv => simp [qZ] at hv
  · match i, hv with
    | 0, hv => injection hv with hv; subst hv; rfl
    | 1, hv => injection hv with hv; subst hv; rfl
    | 2, hv => injection hv with hv; subst hv; rfl
    | 3, hv => injection hv with hv; subst hv; rfl
    | 4, hv => injection hv with hv; subst hv; rfl
    | 5, hv => injection hv with hv; subst hv; rfl
    | 6, hv => injection hv with hv; subst hv; rfl
    | 7, hv => injection hv with hv; subst hv; rfl
    | 8, hv => injection hv with hv; subst hv; rfl
    | i + 9, hv => simp [qZ] at hv
 intro j hj
 obtain rfl | rfl | rfl : j = 0 ∨ j = 1 ∨ j = 2 := by omega
 · exact key 0 xa rfl
 · exact key 1 xb rfl
 · exact key 2 xc rfl
theorem Y_ (l : List Int) (xa xb xc : Nat × Nat) : (Qc l [xa, xb, xc] 4).setIfInBounds 28 (.bool (l.getD 37 0 == 1)) = (⟨l.getD 0 0, l.getD 1 0, l.getD 2 0, l.getD 3 0, qZ l 0 xa, qZ l 1 xb, qZ l 2 xc, l.getD 31 0, l.getD 32 0, l.getD 33 0, l.getD 34 0, l.getD 35 0, l.getD 36 0, l.getD 37 0 == 1⟩ : Eg).R := by kernel_rfl
theorem Jd (l : List Int) (A : Option Addr) (c : Nat) (w0 : World) (hl : Rd w0 A l) (Hf : l.length ≤ 100) : Calls Tryz.prog 17 #[.slice A l.length c] w0 fun x w' => ((∃ e : Eg, x = .returned (.tuple #[.agg e.R, I 0]) ∧ Ic l e ∧ (∀ j, j < 3 → vU w' (e.t j)) ∧ e.ok = true) ∨ (x = .returned (.tuple #[.agg zE, I 2]) ∧ (l.length ≠ 38 ∨ ¬ (l.getD 37 0 = 0 ∨ l.getD 37 0 = 1) ∨ ∀ e : Eg, Ic l e → e.ok = false))) ∧ Below w0.heap.size w0 w' := by
 have HL := Lib.hid hl
 have Pq := Lib.hid Hf
 clear hl Hf
 go_enter Tryz.func17, Tryz.ntmps17
 go_upto_region 1 with fail
 have S1 : Hid (Row ((w0.alloc (.cells #[.slice A l.length c] 46)).alloc (.cells zE 35)) w0.heap.size 46 #[.slice A l.length c] ∧ Row ((w0.alloc (.cells #[.slice A l.length c] 46)).alloc (.cells zE 35)) (w0.heap.size + 1) 35 zE ∧ Below w0.heap.size w0 ((w0.alloc (.cells #[.slice A l.length c] 46)).alloc (.cells zE 35)) ∧ ((w0.alloc (.cells #[.slice A l.length c] 46)).alloc (.cells zE 35)).heap.size = w0.heap.size + 2) := Lib.hid (by
  have h2 := Row.new (w0.alloc (.cells #[.slice A l.length c] 46)) 35 zE
  rw [World.size_alloc] at h2
  exact ⟨(Row.new w0 46 _).alloc _, h2, ((Below.refl _ _).alloc (Nat.le_refl _) _).alloc (by simp) _, by simp⟩)
 change Code.wp _ _ _ _ ((w0.alloc (.cells #[.slice A l.length c] 46)).alloc (.cells zE 35))
 generalize (w0.alloc (.cells #[.slice A l.length c] 46)).alloc (.cells zE 35) = w1 at S1 ⊢
 have cb := S1.out.1.cell 0
 have Z2 : Hid (∀ w', Row w' (w0.heap.size + 1) 35 zE → w'.rangeAt (w0.heap.size + 1) 0 zE.toList) := Lib.hid (fun w' h => Row.whole h)
 have i37 : Hid ((Tryz.prog.info? 35).map (·.size) = some zE.size) := Lib.hid (by kernel_rfl)
 have one : Hid (zE.all (·.oneCell') = true) := Lib.hid (by kernel_rfl)
 have YJ := Lib.hid (Row.there S1.out.2.1)
 by_cases h38 : l.length = 38
 case neg =>
  have d1 : ((l.length : Int) != 38) = true := by rw [bne_iff_ne]; omega
  have TZ := YJ.out
  go_wp2_with (with_reducible refine wpList_store_mid rfl 35 (.tmp 2) (.tmp 32) rfl (w0.heap.size + 1) 0 zE rfl rfl TZ i37.out one.out ?_)
  have RZ := Row.full S1.out.2.1 zE rfl
  exact bodyPost_ret (gp rfl _ _ (w0.heap.size + 1) zE _ rfl (Row.whole RZ) Tryz.underlying35 rfl (by kernel_rfl)) rfl ⟨.inr ⟨rfl, .inl h38⟩, KK.dA _ _ _ S1.out.2.2.1 (by omega)⟩
 have d1 : ((l.length : Int) != 38) = false := by rw [h38]; rfl
 obtain ⟨b, off, rfl, hb, hcells⟩ := (HL.out.below S1.out.2.2.1).cells (by omega)
 have hc := hcells 37 (l.getD 37 0) (gX (by omega))
 have g37 : (37 : Int) < (l.length : Int) := by omega
 have Pz := Lib.hid h38
 obtain ⟨q, hq⟩ : ∃ q, l.getD 37 0 = q := ⟨_, rfl⟩
 rw [hq] at hc
 have HQ := Lib.hid hq
 clear hcells hb h38 hq
 by_cases TW : q = 0 ∨ q = 1
 case neg =>
  have d2 : (q != 0) = true := by rw [bne_iff_ne]; exact fun e => TW (.inl e)
  have d3 : (q != 1) = true := by rw [bne_iff_ne]; exact fun e => TW (.inr e)
  have TZ := YJ.out
  go_wp2_with (with_reducible refine wpList_store_mid rfl 35 (.tmp 2) (.tmp 32) rfl (w0.heap.size + 1) 0 zE rfl rfl TZ i37.out one.out ?_)
  have RZ := Row.full S1.out.2.1 zE rfl
  exact bodyPost_ret (gp rfl _ _ (w0.heap.size + 1) zE _ rfl (Row.whole RZ) Tryz.underlying35 rfl (by kernel_rfl)) rfl ⟨.inr ⟨rfl, .inr (.inl (by rw [HQ.out]; exact TW))⟩, KK.dA _ _ _ S1.out.2.2.1 (by omega)⟩
 have Yf := Lib.hid TW
 have SQ : Hid (Sq l (some ⟨b, off, none⟩) c w0 (((w1.alloc (.cells #[I 0] 3)).alloc (.cells zE 35))) 0 (Tt l 0)) := Lib.hid (by
  have r3 := Row.new w1 3 #[I 0]
  have r4 := Row.new (w1.alloc (.cells #[I 0] 3)) 35 zE
  rw [World.size_alloc, S1.out.2.2.2] at r4
  rw [S1.out.2.2.2] at r3
  exact ⟨r3.alloc _, (S1.out.1.alloc _).alloc _, r4, (S1.out.2.1.alloc _).alloc _, (S1.out.2.2.1.alloc S1.out.2.2.1.size _).alloc (Nat.le_trans S1.out.2.2.1.size (by simp)) _⟩)
 have sz1 := S1.out.2.2.2
 have E2 : Hid (∃ d2 : Bool, (q != 0) = d2 ∧ (d2 = true → (q != 1) = false)) := Lib.hid (by
  rcases Yf.out with rfl | rfl
  · exact ⟨false, rfl, fun h => (by cases h)⟩
  · exact ⟨true, rfl, fun _ => rfl⟩)
 obtain ⟨t31, ht⟩ : ∃ t : Nat, t = 0 := ⟨0, rfl⟩
 go_upto_region 1 with fail
 go_cut [31] (fun v wc => v = .bool false ∧ wc = w1)
 case first =>
  rcases Yf.out with rfl | rfl
  all_goals
   go_wp2_with fail
   go_meet
   exact ⟨rfl, rfl⟩
 case rest =>
 obtain ⟨rfl, rfl⟩ := hcut
 have NX : Hid (∀ W k cs y, Sq l (some ⟨b, off, none⟩) c w0 W k cs → l.getD k 0 = y → k < 38 → Calls Tryz.prog 44 #[.pointer (some ⟨w0.heap.size + 2, 0, none⟩), .pointer (some ⟨w0.heap.size, 0, none⟩)] W fun x W' => x = .returned (I y) ∧ Sq l (some ⟨b, off, none⟩) c w0 W' (k + 1) cs ∧ Far (w0.heap.size + 2) W W') := Lib.hid (fun W k cs y S hy hk => by subst hy; exact Kt S HL.out (gX (by have := Pz.out; omega)) Pq.out)
 clear E2 ht hc d1 g37 cb Z2
 go_upto_region 6 with fail
 rw [show w0.heap.size + 2 + 1 = w0.heap.size + 3 from rfl]
 change Code.wp _ _ _ _ ((wc.alloc (.cells #[I 0] 3)).alloc (.cells zE 35))
 generalize ((wc.alloc (.cells #[I 0] 3)).alloc (.cells zE 35)) = w2 at SQ ⊢
 clear S1 sz1 YJ
 go_wp2_with fail
 go_loopw [34] (fun i wr => ∃ k : Nat, k ≤ 4 ∧ i = .int .i64 k ∧ Hid (Sq l (some ⟨b, off, none⟩) c w0 wr k (Tt l k))) (fun i _ => 4 - (intOf i).toNat)
 case atStart => exact ⟨0, by omega, rfl, SQ⟩
 case round =>
  clear SQ
  obtain ⟨k, hk, rfl, S⟩ := hrel
  obtain rfl | hlt : k = 4 ∨ k < 4 := by omega
  case inr =>
   have sF := Lib.hid hlt
   have d1 : decide ((k : Int) < 4) = true := decide_eq_true (by omega)
   have g0 : (0 : Int) ≤ (k : Int) := by omega
   have g1 : (k : Int) < 4 := by omega
   clear hk hlt
   go_wp2_with fail
   refine (NX.out _ _ _ _ S.out rfl (by have := sF.out; omega)).mono ?_
   rintro x w3 ⟨rfl, hs, hf⟩
   have HS := Lib.hid (hs.set k (I (l.getD k 0)))
   obtain ⟨u, hu⟩ : ∃ u, w3.cell? ⟨w0.heap.size + 3, k, none⟩ = some u := by
    rw [hs.e.cell]
    exact ⟨_, Array.getElem?_eq_getElem (by rw [tJ]; have := sF.out; omega)⟩
   have fu := hs.e.free k
   clear hs hf S
   have hw : IntKind.i64.wrap ((k : Int) + 1) = ((k + 1 : Nat) : Int) := by rw [IntWalk.i64_in _ (by omega)]; omega
   go_wp2
   go_roundw
   case rel => exact ⟨k + 1, sF.out, by first | rfl | (simp [hw]) | (rw [hw]), HS⟩
   case measure =>
    have := sF.out
    simp [intOf, hw]
    omega
  case inl =>
  have SB : Hid (Sq l (some ⟨b, off, none⟩) c w0 wr 4 (Sl l [])) := S
  clear S hk
  go_wp2_with fail
  go_loopw [43] (fun i wl => ∃ ax : List (Nat × Nat), ax.length ≤ 3 ∧ i = .int .i64 ax.length ∧ Hid (Sq l (some ⟨b, off, none⟩) c w0 wl (4 + 9 * ax.length) (Sl l ax)) ∧ Hid (PD l (w0.heap.size + 4) wl ax)) (fun i _ => 3 - (intOf i).toNat)
  case atStart => exact ⟨[], by simp, rfl, SB, Lib.hid (fun j x hx => by simp at hx)⟩
  case round =>
   clear SB
   obtain ⟨ax, hk, rfl, S0, A0⟩ := hrel
   obtain ⟨i, hi⟩ : ∃ i, ax.length = i := ⟨_, rfl⟩
   rw [hi] at S0 hk ⊢
   obtain rfl | hlt : i = 3 ∨ i < 3 := by omega
   case inr =>
    have sF := Lib.hid hlt
    have d1 : decide ((i : Int) < 3) = true := decide_eq_true (by omega)
    have g0 : (0 : Int) ≤ (i : Int) := by omega
    have g1 : (i : Int) < 3 := by omega
    have HI := Lib.hid hi
    clear hk hlt hi
    obtain ⟨y1, hy1⟩ : ∃ y, l.getD (4 + 9 * i) 0 = y := ⟨_, rfl⟩
    have Y1 := Lib.hid hy1
    clear hy1
    go_wp2_with fail
    refine (NX.out _ _ _ _ S0.out Y1.out (by have := sF.out; omega)).mono ?_
    rintro x v1 ⟨rfl, hs, hf⟩
    have S1 := Lib.hid hs
    have A1 := Lib.hid (A0.out.keep (fun g t cs hg R => hf.row (by omega) R))
    clear hs hf S0 A0
    obtain ⟨y2, hy2⟩ : ∃ y, l.getD (4 + 9 * i + 1) 0 = y := ⟨_, rfl⟩
    have Y2 := Lib.hid hy2
    clear hy2
    go_wp2_with fail
    refine (NX.out _ _ _ _ S1.out Y2.out (by have := sF.out; omega)).mono ?_
    rintro x v2 ⟨rfl, hs, hf⟩
    have S2 := Lib.hid hs
    have A2 := Lib.hid (A1.out.keep (fun g t cs hg R => hf.row (by omega) R))
    clear hs hf S1 A1
    obtain ⟨y3, hy3⟩ : ∃ y, l.getD (4 + 9 * i + 2) 0 = y := ⟨_, rfl⟩
    have Y3 := Lib.hid hy3
    clear hy3
    go_wp2_with fail
    refine (NX.out _ _ _ _ S2.out Y3.out (by have := sF.out; omega)).mono ?_
    rintro x v3 ⟨rfl, hs, hf⟩
    have S3 := Lib.hid hs
    have A3 := Lib.hid (A2.out.keep (fun g t cs hg R => hf.row (by omega) R))
    clear hs hf S2 A2
    have BX : Hid (w0.heap.size + 4 ≤ v3.heap.size) := Lib.hid (by have := S3.out.e.lt; omega)
    have SX := Lib.hid (S3.out.alloc (.cells #[I y1, I y2, I y3] 22))
    have AX := Lib.hid (A3.out.keep (fun g t cs hg R => Row.alloc R (.cells #[I y1, I y2, I y3] 22)))
    have XB := Lib.hid (Row.new v3 22 #[I y1, I y2, I y3])
    clear S3 A3
    obtain ⟨y4, hy4⟩ : ∃ y, l.getD (4 + 9 * i + 3) 0 = y := ⟨_, rfl⟩
    have Y4 := Lib.hid hy4
    clear hy4
    go_wp2_with fail
    refine (NX.out _ _ _ _ SX.out Y4.out (by have := sF.out; omega)).mono ?_
    rintro x v4 ⟨rfl, hs, hf⟩
    have S4 := Lib.hid hs
    have A4 := Lib.hid (AX.out.keep (fun g t cs hg R => hf.row (by omega) R))
    have X4 := Lib.hid (hf.row (show v3.heap.size ≠ w0.heap.size + 2 by have := BX.out; omega) XB.out)
    clear hs hf SX AX XB
    obtain ⟨y5, hy5⟩ : ∃ y, l.getD (4 + 9 * i + 4) 0 = y := ⟨_, rfl⟩
    have Y5 := Lib.hid hy5
    clear hy5
    go_wp2_with fail
    refine (NX.out _ _ _ _ S4.out Y5.out (by have := sF.out; omega)).mono ?_
    rintro x v5 ⟨rfl, hs, hf⟩
    have S5 := Lib.hid hs
    have A5 := Lib.hid (A4.out.keep (fun g t cs hg R => hf.row (by omega) R))
    have X5 := Lib.hid (hf.row (show v3.heap.size ≠ w0.heap.size + 2 by have := BX.out; omega) X4.out)
    clear hs hf S4 A4 X4
    obtain ⟨y6, hy6⟩ : ∃ y, l.getD (4 + 9 * i + 5) 0 = y := ⟨_, rfl⟩
    have Y6 := Lib.hid hy6
    clear hy6
    go_wp2_with fail
    refine (NX.out _ _ _ _ S5.out Y6.out (by have := sF.out; omega)).mono ?_
    rintro x v6 ⟨rfl, hs, hf⟩
    have S6 := Lib.hid hs
    have A6 := Lib.hid (A5.out.keep (fun g t cs hg R => hf.row (by omega) R))
    have X6 := Lib.hid (hf.row (show v3.heap.size ≠ w0.heap.size + 2 by have := BX.out; omega) X5.out)
    clear hs hf S5 A5 X5
    obtain ⟨y7, hy7⟩ : ∃ y, l.getD (4 + 9 * i + 6) 0 = y := ⟨_, rfl⟩
    have Y7 := Lib.hid hy7
    clear hy7
    go_wp2_with fail
    refine (NX.out _ _ _ _ S6.out Y7.out (by have := sF.out; omega)).mono ?_
    rintro x v7 ⟨rfl, hs, hf⟩
    have S7 := Lib.hid hs
    have A7 := Lib.hid (A6.out.keep (fun g t cs hg R => hf.row (by omega) R))
    have X7 := Lib.hid (hf.row (show v3.heap.size ≠ w0.heap.size + 2 by have := BX.out; omega) X6.out)
    clear hs hf S6 A6 X6
    obtain ⟨y8, hy8⟩ : ∃ y, l.getD (4 + 9 * i + 7) 0 = y := ⟨_, rfl⟩
    have Y8 := Lib.hid hy8
    clear hy8
    go_wp2_with fail
    refine (NX.out _ _ _ _ S7.out Y8.out (by have := sF.out; omega)).mono ?_
    rintro x v8 ⟨rfl, hs, hf⟩
    have S8 := Lib.hid hs
    have A8 := Lib.hid (A7.out.keep (fun g t cs hg R => hf.row (by omega) R))
    have X8 := Lib.hid (hf.row (show v3.heap.size ≠ w0.heap.size + 2 by have := BX.out; omega) X7.out)
    clear hs hf S7 A7 X7
    obtain ⟨y9, hy9⟩ : ∃ y, l.getD (4 + 9 * i + 8) 0 = y := ⟨_, rfl⟩
    have Y9 := Lib.hid hy9
    clear hy9
    go_wp2_with fail
    refine (NX.out _ _ _ _ S8.out Y9.out (by have := sF.out; omega)).mono ?_
    rintro x v9 ⟨rfl, hs, hf⟩
    have S9 := Lib.hid hs
    have A9 := Lib.hid (A8.out.keep (fun g t cs hg R => hf.row (by omega) R))
    have X9 := Lib.hid (hf.row (show v3.heap.size ≠ w0.heap.size + 2 by have := BX.out; omega) X8.out)
    clear hs hf S8 A8 X8
    have BY : Hid (w0.heap.size + 4 ≤ v9.heap.size) := Lib.hid (by have := S9.out.e.lt; omega)
    have SY := Lib.hid (S9.out.alloc (.cells #[I y4, I y5, I y6, I y5, I y7, I y8, I y6, I y8, I y9] 22))
    have AY := Lib.hid (A9.out.keep (fun g t cs hg R => Row.alloc R (.cells #[I y4, I y5, I y6, I y5, I y7, I y8, I y6, I y8, I y9] 22)))
    have XY := Lib.hid (Row.alloc X9.out (.cells #[I y4, I y5, I y6, I y5, I y7, I y8, I y6, I y8, I y9] 22))
    have YB := Lib.hid (Row.new v9 22 #[I y4, I y5, I y6, I y5, I y7, I y8, I y6, I y8, I y9])
    clear S9 A9 X9
    have TH : Hid (World.there _ (w0.heap.size + 3) (4 + i * 6) (#[.int .i64 3, .int .i64 1, .slice (some ⟨v3.heap.size, 0, none⟩) 3 3, .int .i64 3, .int .i64 3, .slice (some ⟨v9.heap.size, 0, none⟩) 9 9] : Array Value).size) := Lib.hid (Ij SY.out.e (4 + i * 6) 6 (by rw [Bo]; have := sF.out; omega))
    have i33 : Hid ((Tryz.prog.info? 31).map (·.size) = some (#[.int .i64 3, .int .i64 1, .slice (some ⟨v3.heap.size, 0, none⟩) 3 3, .int .i64 3, .int .i64 3, .slice (some ⟨v9.heap.size, 0, none⟩) 9 9] : Array Value).size) := Lib.hid (by kernel_rfl)
    have o33 : Hid ((#[.int .i64 3, .int .i64 1, .slice (some ⟨v3.heap.size, 0, none⟩) 3 3, .int .i64 3, .int .i64 3, .slice (some ⟨v9.heap.size, 0, none⟩) 9 9] : Array Value).all (·.oneCell') = true) := Lib.hid (by kernel_rfl)
    have hw : IntKind.i64.wrap ((i : Int) + 1) = ((i + 1 : Nat) : Int) := by rw [IntWalk.i64_in _ (by omega)]; omega
    go_wp2_with (with_reducible refine wpList_store_mid rfl 31 (.tmp 81) (.tmp 79) rfl (w0.heap.size + 3) (4 + i * 6) #[.int .i64 3, .int .i64 1, .slice (some ⟨v3.heap.size, 0, none⟩) 3 3, .int .i64 3, .int .i64 3, .slice (some ⟨v9.heap.size, 0, none⟩) 9 9] rfl rfl TH.out i33.out o33.out ?_)
    have SF : Hid (Sq l (some ⟨b, off, none⟩) c w0 ((v9.alloc (.cells #[I y4, I y5, I y6, I y5, I y7, I y8, I y6, I y8, I y9] 22)).setCells (w0.heap.size + 3) (4 + i * 6) (YG (v3.heap.size, v9.heap.size)).toList) (4 + 9 * (i + 1)) (Sl l (ax ++ [(v3.heap.size, v9.heap.size)]))) := Lib.hid (by
     have e : 4 + 9 * (i + 1) = 4 + 9 * i + 1 + 1 + 1 + 1 + 1 + 1 + 1 + 1 + 1 := by omega
     rw [e]
     exact SY.out.cells (4 + i * 6) _ _ (by rw [Tq, HI.out]))
    have AF : Hid (PD l (w0.heap.size + 4) ((v9.alloc (.cells #[I y4, I y5, I y6, I y5, I y7, I y8, I y6, I y8, I y9] 22)).setCells (w0.heap.size + 3) (4 + i * 6) (YG (v3.heap.size, v9.heap.size)).toList) (ax ++ [(v3.heap.size, v9.heap.size)])) := Lib.hid (by
     have K : ∀ g t cs, w0.heap.size + 4 ≤ g → Row (v9.alloc (.cells #[I y4, I y5, I y6, I y5, I y7, I y8, I y6, I y8, I y9] 22)) g t cs → Row ((v9.alloc (.cells #[I y4, I y5, I y6, I y5, I y7, I y8, I y6, I y8, I y9] 22)).setCells (w0.heap.size + 3) (4 + i * 6) (YG (v3.heap.size, v9.heap.size)).toList) g t cs := fun g t cs hg R => (OG.fZ _ _ _ _ (by omega)).trans R
     refine (AY.out.keep K).snoc ⟨BX.out, BY.out⟩ ?_ ?_
     · rw [HI.out, show r3 l i = #[I y1, I y2, I y3] by simp only [r3, Y1.out, Y2.out, Y3.out]]
       exact K _ _ _ BX.out XY.out
     · rw [HI.out, show r9 l i = #[I y4, I y5, I y6, I y5, I y7, I y8, I y6, I y8, I y9] by simp only [r9, Y4.out, Y5.out, Y6.out, Y7.out, Y8.out, Y9.out]]
       exact K _ _ _ BY.out YB.out)
    have HF : Hid ((ax ++ [(v3.heap.size, v9.heap.size)]).length = i + 1) := Lib.hid (by simp [HI.out])
    clear SY AY XY YB TH i33
    go_roundw
    case rel =>
     have SF2 : Hid (Sq l (some ⟨b, off, none⟩) c w0 _ (4 + 9 * (ax ++ [(v3.heap.size, v9.heap.size)]).length) (Sl l (ax ++ [(v3.heap.size, v9.heap.size)]))) := Lib.hid (by rw [HF.out]; exact SF.out)
     repeat apply Exists.intro
     refine ⟨⟨ax ++ [(v3.heap.size, v9.heap.size)], ?_, ?_, SF2, AF⟩, rfl⟩
     · rw [HF.out]; have := sF.out; omega
     · rw [HF.out]; first | rfl | (simp [hw]) | (rw [hw])
    case measure =>
     have := sF.out
     simp [intOf, hw]
     omega
   case inl =>
    clear hk
    obtain ⟨xa, xb, xc, hx3⟩ := VO hi
    subst hx3
    clear hi
    obtain ⟨p31, h31⟩ : ∃ y, l.getD 31 0 = y := ⟨_, rfl⟩
    obtain ⟨p32, h32⟩ : ∃ y, l.getD 32 0 = y := ⟨_, rfl⟩
    have P31 := Lib.hid h31
    have P32 := Lib.hid h32
    clear h31 h32
    go_wp2_with fail
    refine (NX.out _ _ _ _ S0.out P31.out (by decide)).mono ?_
    rintro x v1 ⟨rfl, hs, hf⟩
    have S1 := Lib.hid hs
    have A1 := Lib.hid (A0.out.keep (fun g t cs hg R => hf.row (by omega) R))
    clear hs hf S0 A0
    go_wp2_with fail
    refine (NX.out _ _ _ _ S1.out P32.out (by decide)).mono ?_
    rintro x v2 ⟨rfl, hs, hf⟩
    have S2 := Lib.hid hs
    have A2 := Lib.hid (A1.out.keep (fun g t cs hg R => hf.row (by omega) R))
    clear hs hf S1 A1
    have SZ := Bo l [xa, xb, xc]
    have hce : ∀ i, v2.cell? ⟨w0.heap.size + 3, i, none⟩ = (Sl l [xa, xb, xc])[i]? := S2.out.e.cell
    obtain ⟨u22, Qp⟩ : ∃ u, v2.cell? ⟨w0.heap.size + 3, 22, none⟩ = some u := ⟨_, (hce 22).trans (Array.getElem?_eq_getElem (by rw [SZ]; decide))⟩
    obtain ⟨u23, Qo⟩ : ∃ u, v2.cell? ⟨w0.heap.size + 3, 23, none⟩ = some u := ⟨_, (hce 23).trans (Array.getElem?_eq_getElem (by rw [SZ]; decide))⟩
    have f22 := S2.out.e.free
    have S3 : Hid (Sq l (some ⟨b, off, none⟩) c w0 ((v2.setCell ⟨w0.heap.size + 3, 22, none⟩ (I p31)).setCell ⟨w0.heap.size + 3, 23, none⟩ (I p32)) 33 (Qc l [xa, xb, xc] 0)) := Lib.hid (by
     rw [Qc, P31.out, P32.out]
     exact (S2.out.set 22 (I p31)).set 23 (I p32))
    have A3 : Hid (PD l (w0.heap.size + 4) ((v2.setCell ⟨w0.heap.size + 3, 22, none⟩ (I p31)).setCell ⟨w0.heap.size + 3, 23, none⟩ (I p32)) [xa, xb, xc]) := Lib.hid (A2.out.keep (fun g t cs hg R => Row.far (Row.far R (show g ≠ w0.heap.size + 3 by omega) _) (show g ≠ w0.heap.size + 3 by omega) _))
    clear SZ hce S2 A2
    go_upto_region 19 with fail
    generalize (v2.setCell ⟨w0.heap.size + 3, 22, none⟩ (I p31)).setCell ⟨w0.heap.size + 3, 23, none⟩ (I p32) = v3 at S3 A3 ⊢
    clear Qp Qo f22
    go_wp2_with fail
    go_loopw [89] (fun i wl => ∃ k : Nat, k ≤ 4 ∧ i = .int .i64 k ∧ Hid (Sq l (some ⟨b, off, none⟩) c w0 wl (33 + k) (Qc l [xa, xb, xc] k)) ∧ Hid (PD l (w0.heap.size + 4) wl [xa, xb, xc])) (fun i _ => 4 - (intOf i).toNat)
    case atStart => exact ⟨0, by omega, rfl, S3, A3⟩
    case round =>
     clear S3 A3
     obtain ⟨k, hk, rfl, S, A⟩ := hrel
     obtain rfl | hlt : k = 4 ∨ k < 4 := by omega
     case inr =>
      have sF := Lib.hid hlt
      have d1 : decide ((k : Int) < 4) = true := decide_eq_true (by omega)
      have g0 : (0 : Int) ≤ (k : Int) := by omega
      have g1 : (k : Int) < 4 := by omega
      clear hk hlt
      obtain ⟨y, hy⟩ : ∃ y, l.getD (33 + k) 0 = y := ⟨_, rfl⟩
      have Y := Lib.hid hy
      clear hy
      go_wp2_with fail
      refine (NX.out _ _ _ _ S.out Y.out (by have := sF.out; omega)).mono ?_
      rintro x v4 ⟨rfl, hs, hf⟩
      have HS : Hid (Sq l (some ⟨b, off, none⟩) c w0 (v4.setCell ⟨w0.heap.size + 3, 24 + k, none⟩ (I y)) (33 + (k + 1)) (Qc l [xa, xb, xc] (k + 1))) := Lib.hid (by rw [Qc, Y.out]; exact hs.set (24 + k) (I y))
      have HA : Hid (PD l (w0.heap.size + 4) (v4.setCell ⟨w0.heap.size + 3, 24 + k, none⟩ (I y)) [xa, xb, xc]) := Lib.hid ((A.out.keep (fun g t cs hg R => hf.row (by omega) R)).keep (fun g t cs hg R => Row.far R (show g ≠ w0.heap.size + 3 by omega) _))
      obtain ⟨u, hu⟩ : ∃ u, v4.cell? ⟨w0.heap.size + 3, 24 + k, none⟩ = some u := by
       rw [hs.e.cell]
       exact ⟨_, Array.getElem?_eq_getElem (by rw [Bl]; have := sF.out; omega)⟩
      have fu := hs.e.free (24 + k)
      clear hs hf S A
      have hw : IntKind.i64.wrap ((k : Int) + 1) = ((k + 1 : Nat) : Int) := by rw [IntWalk.i64_in _ (by omega)]; omega
      go_wp2
      go_roundw
      case rel => exact ⟨k + 1, sF.out, by first | rfl | (simp [hw]) | (rw [hw]), HS, HA⟩
      case measure =>
       have := sF.out
       simp [intOf, hw]
       omega
     case inl =>
     clear hk
     obtain ⟨y, hy⟩ : ∃ y, l.getD 37 0 = y := ⟨_, rfl⟩
     have Y := Lib.hid hy
     clear hy
     go_wp2_with fail
     refine (NX.out _ _ _ _ S.out Y.out (by decide)).mono ?_
     rintro x v4 ⟨rfl, hs, hf⟩
     have HS := Lib.hid (hs.set 28 (.bool (y == 1)))
     have HA : Hid (PD l (w0.heap.size + 4) (v4.setCell ⟨w0.heap.size + 3, 28, none⟩ (.bool (y == 1))) [xa, xb, xc]) := Lib.hid ((A.out.keep (fun g t cs hg R => hf.row (by omega) R)).keep (fun g t cs hg R => Row.far R (show g ≠ w0.heap.size + 3 by omega) _))
     obtain ⟨u, hu⟩ : ∃ u, v4.cell? ⟨w0.heap.size + 3, 28, none⟩ = some u := by
      rw [hs.e.cell]
      exact ⟨_, Array.getElem?_eq_getElem (by rw [Bl]; decide)⟩
     have fu := hs.e.free 28
     clear hs hf S A
     go_upto_region 25 with fail
     generalize v4.setCell ⟨w0.heap.size + 3, 28, none⟩ (.bool (y == 1)) = v5 at HS HA ⊢
     clear hu fu
     obtain ⟨e, he⟩ : ∃ e : Eg, e = ⟨l.getD 0 0, l.getD 1 0, l.getD 2 0, l.getD 3 0, qZ l 0 xa, qZ l 1 xb, qZ l 2 xc, l.getD 31 0, l.getD 32 0, l.getD 33 0, l.getD 34 0, l.getD 35 0, l.getD 36 0, l.getD 37 0 == 1⟩ := ⟨_, rfl⟩
     have ER : Hid ((Qc l [xa, xb, xc] 4).setIfInBounds 28 (.bool (y == 1)) = e.R) := Lib.hid (by rw [he, ← Y.out]; exact Y_ l xa xb xc)
     have OE : Hid (Ic l e) := Lib.hid (by rw [he]; exact Y0 l xa xb xc Pz.out (by rw [HQ.out]; exact Yf.out))
     have RE : Hid (Row v5 (w0.heap.size + 3) 35 e.R) := Lib.hid (by have := HS.out.e; rw [ER.out] at this; exact this)
     have RT : Hid (∀ j, j < 3 → vU v5 (e.t j)) := Lib.hid (by rw [he]; exact P_ HA.out)
     have RZ := Lib.hid HS.out.z
     have BZ := Lib.hid HS.out.be
     have RL := Lib.hid (Row.whole RE.out)
     have KF : Hid ((Tryz.prog.info? 35).map (·.size) = some e.R.toList.length) := Lib.hid (by kernel_rfl)
     have Xd : Hid ((Tryz.prog.info? 35).map (·.size) = some e.R.size) := Lib.hid (by kernel_rfl)
     have WQ : Hid (e.R.all (·.oneCell') = true) := Lib.hid (by kernel_rfl)
     have HE := Lib.hid he
     clear HS ER he Y NX HQ Yf
     go_wp2_with (with_reducible refine OG.iE rfl 35 (.tmp 6) rfl (w0.heap.size + 3) 0 rfl e.R.toList _ RL.out Tryz.underlying35 rfl KF.out ?_)
     refine (Cc e _ RT.out).mono ?_
     rintro x v6 ⟨rfl, hb⟩
     have Sv := Lib.hid (RZ.out.below hb RZ.out.lt)
     have RL6 := Lib.hid (Row.whole (RE.out.below hb RE.out.lt))
     have HA6 := Lib.hid (HA.out.keep (fun g t cs hg R => R.below hb R.lt))
     have Yq : Hid (Below w0.heap.size w0 v6) := Lib.hid (BZ.out.trans (hb.mono BZ.out.size))
     clear hb RZ RL RE HA BZ RT
     cases hok : e.ok
     case false =>
      have NO : Hid (∀ e' : Eg, Ic l e' → e'.ok = false) := Lib.hid (fun e' h => (h.same OE.out).trans hok)
      clear hok
      have TZ := Row.there Sv.out
      go_wp2_with (with_reducible refine wpList_store_mid rfl 35 (.tmp 2) (.tmp 105) rfl (w0.heap.size + 1) 0 zE rfl rfl TZ i37.out one.out ?_)
      have RZ := Row.full Sv.out zE rfl
      exact bodyPost_ret (gp rfl _ _ (w0.heap.size + 1) zE _ rfl (Row.whole RZ) Tryz.underlying35 rfl (by kernel_rfl)) rfl ⟨.inr ⟨rfl, .inr (.inr NO.out)⟩, KK.dA _ _ _ Yq.out (by omega)⟩
     case true =>
      have OKK := Lib.hid hok
      clear hok
      have TH : Hid (v6.there (w0.heap.size + 1) 0 e.R.size) := Lib.hid (show v6.there (w0.heap.size + 1) 0 e.R.size from (Row.there Sv.out : v6.there (w0.heap.size + 1) 0 zE.size))
      go_wp2_with (first | with_reducible refine OG.iE rfl 35 (.tmp 6) rfl (w0.heap.size + 3) 0 rfl e.R.toList _ RL6.out Tryz.underlying35 rfl KF.out ?_ | with_reducible refine wpList_store_mid rfl 35 (.tmp 2) (.tmp 106) rfl (w0.heap.size + 1) 0 e.R rfl rfl TH.out Xd.out WQ.out ?_)
      have RF := Row.full Sv.out e.R rfl
      have HAF := HA6.out.keep (fun g t cs hg R => (OG.fZ e.R.toList 0 v6 g (show g ≠ w0.heap.size + 1 by omega)).trans R)
      refine bodyPost_ret (gp rfl _ _ (w0.heap.size + 1) e.R _ rfl (Row.whole RF) Tryz.underlying35 rfl (by kernel_rfl)) rfl ⟨.inl ⟨e, rfl, OE.out, ?_, OKK.out⟩, KK.dA _ _ _ Yq.out (by omega)⟩
      have HB := P_ HAF
      rw [← HE.out] at HB
      exact HB
end Go.Proofs.YtcfobekkchhbbaaGreat.EE

namespace Go.Proofs.YtcfobekkchhbbaaGreat.EE
open Go.RowKit Go.Proofs.YtcfobekkchhbbaaGreat.KK Go.Proofs.af.aQ Go.Proofs.af.a_ Go.Proofs.af.bg
set_option linter.unusedVariables false
set_option linter.unusedSimpArgs false
theorem PY {w w' : World} {n : Nat} (h : Below n w w') (k : Nat) : Below n w (w'.drewN k) := ah h k
theorem Dx (a0 b0 : List Int) (A B : Option Addr) (ca cb : Nat) (w : World) (ha : Rd w A a0) (hb : Rd w B b0) (la0 : a0.length ≤ 1000000) :
 Calls Tryz.prog 19 #[.slice A a0.length ca, .slice B b0.length cb] w fun x w' => ∃ r : Bool, x = .returned (.bool r) ∧ (r = true ↔ a0 = b0) ∧ Below w.heap.size w w' := by
 have HA := Lib.hid ha
 have HB := Lib.hid hb
 have la := Lib.hid la0
 clear ha hb la0
 go_enter Tryz.func19, Tryz.ntmps19
 by_cases hl : a0.length = b0.length
 case neg =>
  have hd : ((a0.length : Int) != (b0.length : Int)) = true := by rw [bne_iff_ne]; omega
  go_wp2
  go_ret
  exact ⟨false, rfl, ⟨fun h => (by cases h), fun e => absurd (congrArg List.length e) hl⟩, Below.refl _ _⟩
 have hd : ((a0.length : Int) != (b0.length : Int)) = false := by simp [hl]
 have HL := Lib.hid hl
 clear hl
 go_wp2
 clear hd
 go_loopw [5] (fun i wr => ∃ k : Nat, k ≤ a0.length ∧ i = .int .i64 k ∧ Hid (Below w.heap.size w wr ∧ ∀ j, j < k → a0[j]? = b0[j]?)) (fun i _ => a0.length - (intOf i).toNat)
 case atStart => exact ⟨0, by omega, rfl, Below.refl _ _, fun j hj => by omega⟩
 case round =>
  obtain ⟨k, hk, rfl, F⟩ := hrel
  obtain rfl | hlt : k = a0.length ∨ k < a0.length := by omega
  · go_wp2
    go_ret
    refine ⟨true, rfl, ⟨fun _ => ?_, fun _ => rfl⟩, F.out.1⟩
    apply List.ext_getElem?
    intro j
    have HLL := HL.out
    by_cases hj : j < a0.length
    · exact F.out.2 j hj
    · rw [List.getElem?_eq_none (by omega), List.getElem?_eq_none (by omega)]
  · have hlb : k < b0.length := by have := HL.out; omega
    obtain ⟨s, hs⟩ : ∃ s, a0[k]? = some s := ⟨_, List.getElem?_eq_getElem hlt⟩
    obtain ⟨t, ht⟩ : ∃ t, b0[k]? = some t := ⟨_, List.getElem?_eq_getElem hlb⟩
    obtain ⟨b1, o1, rfl, _, h1⟩ := (HA.out.below F.out.1).cells (by omega)
    obtain ⟨b2, o2, rfl, _, h2⟩ := (HB.out.below F.out.1).cells (by omega)
    have c1 := h1 k s hs
    have c2 := h2 k t ht
    have HST := Lib.hid (And.intro hs ht)
    have sF := Lib.hid hlt
    have d0 : decide ((k : Int) < (a0.length : Int)) = true := decide_eq_true (by omega)
    have d1 : decide (k < a0.length) = true := decide_eq_true hlt
    have g0 : (0 : Int) ≤ (k : Int) := by omega
    have g1 : (k : Int) < (a0.length : Int) := by omega
    have g2 : (k : Int) < (b0.length : Int) := by omega
    have hw : IntKind.i64.wrap ((k : Int) + 1) = ((k + 1 : Nat) : Int) := by rw [IntWalk.i64_in _ (by have := la.out; omega)]; omega
    clear h1 h2 hs ht hlt hlb hk
    by_cases he : s = t
    · have d2 : (s != t) = false := by simp [he]
      have HE := Lib.hid he
      clear he
      go_wp2
      go_quiet (fail)
      go_wp2
      go_roundw
      case rel => exact ⟨k + 1, sF.out, by first | rfl | (simp [hw]) | (rw [hw]), Lib.hid ⟨PY F.out.1 _, fun j hj => by
       obtain rfl | h : j = k ∨ j < k := by omega
       · rw [HST.out.1, HST.out.2, HE.out]
       · exact F.out.2 j h⟩⟩
      case measure =>
       have := sF.out
       simp [intOf, hw]
       omega
    · have d2 : (s != t) = true := by rw [bne_iff_ne]; exact he
      have HE := Lib.hid he
      clear he
      go_wp2
      go_quiet (fail)
      go_wp2
      go_ret
      refine ⟨false, rfl, ⟨fun h => (by cases h), fun e => ?_⟩, PY F.out.1 _⟩
      have h1 := HST.out.1
      rw [e, HST.out.2] at h1
      injection h1 with h1
      exact absurd h1.symm HE.out
theorem Ky (w : World) (z D : Array Value) (t : TypeId) (hD : D.size = z.size) :
 Row ((w.alloc (.cells z t)).setCells w.heap.size 0 D.toList) w.heap.size t D ∧ Below w.heap.size w ((w.alloc (.cells z t)).setCells w.heap.size 0 D.toList) :=
 ⟨Row.full (Row.new w t z) D hD, KK.dA _ _ _ ((Below.refl _ _).alloc (Nat.le_refl _) _) (Nat.le_refl _)⟩
def Eg.es (e : Eg) : Es := ⟨e.q0, e.q1, e.q2, e.q3, ⟨e.t0.A, e.t0.cx, e.t0.x, e.t0.B, e.t0.cp, e.t0.p⟩, ⟨e.t1.A, e.t1.cx, e.t1.x, e.t1.B, e.t1.cp, e.t1.p⟩, ⟨e.t2.A, e.t2.cx, e.t2.x, e.t2.B, e.t2.cp, e.t2.p⟩, e.steps, e.dM, e.f0, e.f1, e.f2, e.f3, e.sat⟩
theorem Fz {w : World} {base : Nat} {A : Option Addr} {n c : Nat} {l : List Int} (h : v_ w base (.slice A n c) l) : Rd w A l := by
 have h2 : Kd.R (Kd.int .i64) 2 w base (fun _ => True) (.slice A n c) l := Kd.Dc (enc := I) h (fun _ _ => trivial)
 obtain ⟨A', c', e, _, hr⟩ := Kd.x_ h2
 injection e with e1 _ _
 subst e1
 exact hr
end Go.Proofs.YtcfobekkchhbbaaGreat.EE

