import Derived.Test.YtnijhjbcjeohhaaV13
import Derived.Test.YtnijhjbcjeohhaaV11
/- Joined and thinned by a program of this session's own (wip/pack2.py) out of its texts (wip/ of its repo); parts were laid by its own program (wip/print-patch.py over the kit's print) out of the translation; Lean checks all. -/
set_option maxRecDepth 100000
set_option maxHeartbeats 4000000
namespace Go.Proofs.Ytnijhjbcjeohhaa.BB
open Go.RowKit Go.Proofs.Ytnijhjbcjeohhaa.KK Go.Proofs.Ytnijhjbcjeohhaa.EE Go.Proofs.af.aA Go.Proofs.af.aN Go.Proofs.af.aP
set_option linter.unusedVariables false
set_option linter.unusedSimpArgs false
theorem wZ (c : Cf) (log : List Sm) (os : List Ou) (n : Int) (A B : Option Addr) (cp cb : Nat) (ws : World) (hr0 : log.length ≤ 20 → nR ws A log) (ho0 : os.length ≤ 20 → jX 4 ws B (os.map Ou.R)) (hc : log.length ≤ cp) (hm : cp ≤ 4611686018427387904) :
 Calls Try.prog 8 #[.agg #[I c.dt, I c.acc, I c.bias, I c.dJ, I c.dY, I c.gate, .slice A log.length cp, .int .i64 n, .slice B os.length cb]] ws fun x w' => x = .returned (.bool true) ∧ Below ws.heap.size ws w' := by
 have HR0 := Lib.hid hr0
 have HO0 := Lib.hid ho0
 have HC := Lib.hid (And.intro hc hm)
 clear hr0 ho0 hc hm
 go_enter Try.func8, Try.ntmps8
 have N0 := Lib.hid (Row.new ws 68 #[I c.dt, I c.acc, I c.bias, I c.dJ, I c.dY, I c.gate, .slice A log.length cp, .int .i64 n, .slice B os.length cb])
 have B0 := Lib.hid ((Below.refl ws.heap.size ws).alloc (Nat.le_refl _) (.cells #[I c.dt, I c.acc, I c.bias, I c.dJ, I c.dY, I c.gate, .slice A log.length cp, .int .i64 n, .slice B os.length cb] 68))
 go_upto_region 1 with fail
 generalize ws.alloc (.cells #[I c.dt, I c.acc, I c.bias, I c.dJ, I c.dY, I c.gate, .slice A log.length cp, .int .i64 n, .slice B os.length cb] 68) = w0 at N0 B0 ⊢
 have hc : ∀ i, w0.cell? ⟨ws.heap.size, i, none⟩ = #[I c.dt, I c.acc, I c.bias, I c.dJ, I c.dY, I c.gate, .slice A log.length cp, .int .i64 n, .slice B os.length cb][i]? := N0.out.cell
 have hlt := N0.out.lt
 go_upto_region 5 with fail
 have NC := Lib.hid (Row.new w0 24 c.row)
 have B1 : Hid (Below ws.heap.size ws (w0.alloc (.cells c.row 24))) := Lib.hid (B0.out.alloc B0.out.size _)
 have hz : Hid (ws.heap.size ≤ w0.heap.size) := Lib.hid B0.out.size
 clear hc hlt N0 B0
 change Code.wp _ _ _ _ (w0.alloc (.cells c.row 24))
 generalize w0.alloc (.cells c.row 24) = w1 at NC B1 ⊢
 generalize w0.heap.size = z at NC hz ⊢
 go_wp2_with fail
 refine (iR _).mono ?_
 rintro x w2 ⟨rfl, hb⟩
 have RC := Lib.hid ((NC.out.below hb NC.out.lt : Row w2 z 24 c.row))
 have B2 : Hid (Below ws.heap.size ws w2) := Lib.hid (B1.out.trans (hb.mono B1.out.size))
 clear hb B1 NC
 have hcc : ∀ i, w2.cell? ⟨z, i, none⟩ = c.row[i]? := RC.out.cell
 go_wp2_with fail
 refine (uX c _).mono ?_
 rintro x w3 ⟨rfl, hb⟩
 have RU := Lib.hid ((RC.out.below hb RC.out.lt : Row w3 z 24 c.row))
 have B3 : Hid (Below ws.heap.size ws w3) := Lib.hid (B2.out.trans (hb.mono B2.out.size))
 clear hb B2 RC hcc
 cases hmay : c.may
 case false =>
  go_wp2
  exact bodyPost_ret (results_tmp rfl _ _ _) rfl ⟨rfl, B3.out⟩
 have D8 := Lib.hid hmay
 clear hmay
 by_cases h20 : log.length ≤ 20
 case neg =>
  have d0 : decide ((20 : Int) < (log.length : Int)) = true := decide_eq_true (by omega)
  go_wp2
  exact bodyPost_ret (results_tmp rfl _ _ _) rfl ⟨rfl, B3.out⟩
 have d0 : decide ((20 : Int) < (log.length : Int)) = false := decide_eq_false (by omega)
 have PW := Lib.hid h20
 clear h20
 by_cases h21 : os.length ≤ 20
 case neg =>
  have d1 : decide ((20 : Int) < (os.length : Int)) = true := decide_eq_true (by omega)
  go_wp2
  exact bodyPost_ret (results_tmp rfl _ _ _) rfl ⟨rfl, B3.out⟩
 have d1 : decide ((20 : Int) < (os.length : Int)) = false := decide_eq_false (by omega)
 have O20 := Lib.hid h21
 clear h21
 by_cases h0 : n < 0
 case pos =>
  have d2 : decide (n < 0) = true := decide_eq_true h0
  go_wp2
  exact bodyPost_ret (results_tmp rfl _ _ _) rfl ⟨rfl, B3.out⟩
 have d2 : decide (n < 0) = false := decide_eq_false h0
 by_cases h1 : (log.length : Int) < n
 case pos =>
  have d3 : decide ((log.length : Int) < n) = true := decide_eq_true h1
  go_wp2
  exact bodyPost_ret (results_tmp rfl _ _ _) rfl ⟨rfl, B3.out⟩
 obtain ⟨m, rfl⟩ : ∃ m : Nat, n = (m : Int) := ⟨n.toNat, by omega⟩
 have HM : Hid (m ≤ log.length) := Lib.hid (by omega)
 have d3 : decide ((log.length : Int) < (m : Int)) = false := decide_eq_false h1
 have d3' : decide (log.length < m) = false := decide_eq_false (by have := HM.out; omega)
 clear h0 h1
 have HL := Lib.hid (HR0.out PW.out)
 have HO := Lib.hid (HO0.out O20.out)
 clear HR0 HO0
 obtain ⟨N, hN0, Q4, Q3⟩ := Og c D8.out log
 have FC : Hid (∀ w', Below ws.heap.size ws w' → Calls Try.prog 31 #[.agg c.row, .slice A log.length cp] w' fun x w2 => ∃ (e : Es) (v : Value), e.nu = N log.length ∧ x = .returned (.tuple #[.agg e.R, v]) ∧ w2.ownsRow w'.heap.size 42 3 v log.length (outs N log.length) ∧ Below w'.heap.size w' w2) := Lib.hid (fun w' h => oz c log A cp N w' D8.out Q4 Q3 hN0 (HL.out.below h))
 have FD : Hid (∀ w', Below ws.heap.size ws w' → Calls Try.prog 31 #[.agg c.row, .slice A m cp] w' fun x w2 => ∃ (e : Es) (v : Value), e.nu = N m ∧ x = .returned (.tuple #[.agg e.R, v]) ∧ w2.ownsRow w'.heap.size 42 3 v m (outs N m) ∧ Below w'.heap.size w' w2) := Lib.hid (fun w' h => by
  have lt : (log.take m).length = m := by rw [List.length_take]; have := HM.out; omega
  have H := oz c (log.take m) A cp N w' D8.out (fun k hk => Q4 k (by have := HM.out; omega)) (fun k s hs => Q3 k s (by rw [List.getElem?_take] at hs; split at hs; exact hs; cases hs)) hN0 ((HL.out.below h).take m)
  rw [lt] at H
  exact H)
 have GA : Hid (∀ w', Below ws.heap.size ws w' → Calls Try.prog 33 #[.agg c.row, .slice A log.length cp, .slice B os.length cb] w' fun x w2 => ∃ r : Bool, x = .returned (.bool r) ∧ (r = true ↔ ∀ o ∈ os, ¬ bad (kP N log.length) o) ∧ Below w'.heap.size w' w2) := Lib.hid (fun w' h => pz c log os A B cp cb N w' D8.out Q4 Q3 hN0 (HL.out.below h) (HO.out.below h))
 have GB : Hid (∀ w', Below ws.heap.size ws w' → Calls Try.prog 33 #[.agg c.row, .slice A m cp, .slice B os.length cb] w' fun x w2 => ∃ r : Bool, x = .returned (.bool r) ∧ (r = true ↔ ∀ o ∈ os, ¬ bad (kP N m) o) ∧ Below w'.heap.size w' w2) := Lib.hid (fun w' h => by
  have lt : (log.take m).length = m := by rw [List.length_take]; have := HM.out; omega
  have H := pz c (log.take m) os A B cp cb N w' D8.out (fun k hk => Q4 k (by have := HM.out; omega)) (fun k s hs => Q3 k s (by rw [List.getElem?_take] at hs; split at hs; exact hs; cases hs)) hN0 ((HL.out.below h).take m) (HO.out.below h)
  rw [lt] at H
  exact H)
 clear hN0 Q4 Q3
 have hcc : ∀ i, w3.cell? ⟨z, i, none⟩ = c.row[i]? := RU.out.cell
 go_wp2_with fail
 refine (FC.out w3 B3.out).mono ?_
 rintro x w4 ⟨e, v, -, rfl, hv, hb⟩
 obtain ⟨G, cap, rfl, Ff, -, hG⟩ := vk hv (by have := PW.out; omega)
 rw [mD]
 have RG := Lib.hid hG
 have CG := Lib.hid Ff
 have RN := Lib.hid ((RU.out.below hb RU.out.lt : Row w4 z 24 c.row))
 have B4 : Hid (Below ws.heap.size ws w4) := Lib.hid (B3.out.trans (hb.mono B3.out.size))
 clear hb hv hG Ff B3 RU hcc FC d0 d1 d2 d3 d3'
 have TN := Lib.hid (oU w4 #[.int .i64 0, .int .i64 0, .int .i64 0, .int .i64 0, .int .i64 0, .int .i64 0, .slice none 0 0, .int .i64 0, .int .i64 0, .slice none 0 0, .int .i64 0, .int .i64 0, .slice none 0 0, .int .i64 0, .int .i64 0, .slice none 0 0, .int .i64 0, .int .i64 0, .slice none 0 0, .int .i64 0, .int .i64 0, .slice none 0 0, .int .i64 0, .int .i64 0, .int .i64 0, .int .i64 0, .int .i64 0, .int .i64 0, .bool false] e.R 37 rfl)
 have TH : Hid ((w4.alloc (.cells #[.int .i64 0, .int .i64 0, .int .i64 0, .int .i64 0, .int .i64 0, .int .i64 0, .slice none 0 0, .int .i64 0, .int .i64 0, .slice none 0 0, .int .i64 0, .int .i64 0, .slice none 0 0, .int .i64 0, .int .i64 0, .slice none 0 0, .int .i64 0, .int .i64 0, .slice none 0 0, .int .i64 0, .int .i64 0, .slice none 0 0, .int .i64 0, .int .i64 0, .int .i64 0, .int .i64 0, .int .i64 0, .int .i64 0, .bool false] 37)).there w4.heap.size 0 e.R.size) := Lib.hid (by have h := Row.there (Row.new w4 37 #[.int .i64 0, .int .i64 0, .int .i64 0, .int .i64 0, .int .i64 0, .int .i64 0, .slice none 0 0, .int .i64 0, .int .i64 0, .slice none 0 0, .int .i64 0, .int .i64 0, .slice none 0 0, .int .i64 0, .int .i64 0, .slice none 0 0, .int .i64 0, .int .i64 0, .slice none 0 0, .int .i64 0, .int .i64 0, .slice none 0 0, .int .i64 0, .int .i64 0, .int .i64 0, .int .i64 0, .int .i64 0, .int .i64 0, .bool false]); exact h)
 have i37 : Hid ((Try.prog.info? 37).map (·.size) = some e.R.size) := Lib.hid (by kernel_rfl)
 have one : Hid (e.R.all (·.oneCell') = true) := Lib.hid (by kernel_rfl)
 go_upto_region 9 with (with_reducible refine wpList_store_mid rfl 37 (.tmp 8) (.tmp 49) rfl w4.heap.size 0 e.R rfl rfl TH.out i37.out one.out ?_)
 clear TH i37 one
 generalize (w4.alloc (.cells #[.int .i64 0, .int .i64 0, .int .i64 0, .int .i64 0, .int .i64 0, .int .i64 0, .slice none 0 0, .int .i64 0, .int .i64 0, .slice none 0 0, .int .i64 0, .int .i64 0, .slice none 0 0, .int .i64 0, .int .i64 0, .slice none 0 0, .int .i64 0, .int .i64 0, .slice none 0 0, .int .i64 0, .int .i64 0, .slice none 0 0, .int .i64 0, .int .i64 0, .int .i64 0, .int .i64 0, .int .i64 0, .int .i64 0, .bool false] 37)).setCells w4.heap.size 0 e.R.toList = w5 at TN ⊢
 have Py := Lib.hid ((RN.out.below TN.out.2 RN.out.lt : Row w5 z 24 c.row))
 have Y1 := Lib.hid (RG.out.below TN.out.2)
 have B5 : Hid (Below ws.heap.size ws w5) := Lib.hid (B4.out.trans (TN.out.2.mono B4.out.size))
 clear TN B4 RN RG
 generalize w4.heap.size = z8
 have i24 : Hid ((Try.prog.info? 24).map (·.size) = some c.row.toList.length) := Lib.hid (by kernel_rfl)
 have xZ : Hid ((Try.prog.info? 37).map (·.size) = some e.R.size) := Lib.hid (by kernel_rfl)
 refine OG.fF (by kernel_rfl) (fun l a w => ∃ e1 : Es, ∃ v1 : Value, ∃ bz : Nat, a = { tmps := List.toArray (Value.agg #[I c.dt, I c.acc, I c.bias, I c.dJ, I c.dY, I c.gate, Value.slice A log.length cp, I m, Value.slice B os.length cb] :: Value.pointer (some ⟨ws.heap.size, 0, none⟩) :: Value.bool false :: Value.pointer (some ⟨z, 0, none⟩) :: Value.slice A log.length cp :: I m :: Value.slice B os.length cb :: Value.bool true :: Value.pointer (some ⟨z8, 0, none⟩) :: Value.slice G log.length cap :: (bif l 8 then Value.pointer (some ⟨bz, 0, none⟩) else undef) :: (bif l 10 then v1 else undef) :: Value.pointer (some ⟨ws.heap.size, 0, none⟩) :: Value.agg #[I c.dt, I c.acc, I c.bias, I c.dJ, I c.dY, I c.gate] :: Value.pointer (some ⟨ws.heap.size, 6, none⟩) :: Value.slice A log.length cp :: Value.pointer (some ⟨ws.heap.size, 7, none⟩) :: I m :: Value.pointer (some ⟨ws.heap.size, 8, none⟩) :: Value.slice B os.length cb :: Value.bool true :: Value.agg #[I c.dt, I c.acc, I c.bias, I c.dJ, I c.dY, I c.gate] :: Value.bool true :: Value.bool false :: Value.bool false :: Value.slice A log.length cp :: I log.length :: Value.bool false :: Value.bool false :: Value.bool false :: Value.slice B os.length cb :: I os.length :: Value.bool false :: Value.bool false :: Value.bool false :: I m :: Value.bool false :: Value.bool false :: Value.bool false :: I m :: Value.slice A log.length cp :: I log.length :: Value.bool false :: Value.bool false :: undef :: Value.tuple #[Value.agg e.R, Value.slice G log.length cap] :: Value.agg #[I c.dt, I c.acc, I c.bias, I c.dJ, I c.dY, I c.gate] :: Value.slice A log.length cp :: Value.tuple #[Value.agg e.R, Value.slice G log.length cap] :: Value.agg e.R :: Value.slice G log.length cap :: (bif l 5 then .tuple #[.agg e1.R, v1] else undef) :: (bif l 0 then .agg c.row else undef) :: (bif l 1 then Value.slice A log.length cp else undef) :: (bif l 2 then I m else undef) :: (bif l 3 then Value.slice A m cp else undef) :: (bif l 4 then .tuple #[.agg e1.R, v1] else undef) :: (bif l 6 then .agg e1.R else undef) :: (bif l 7 then v1 else undef) :: undef :: undef :: undef :: undef :: undef :: undef :: undef :: undef :: undef :: undef :: undef :: undef :: undef :: undef :: undef :: undef :: undef :: undef :: undef :: undef :: undef :: undef :: undef :: undef :: undef :: undef :: undef :: undef :: undef :: undef :: undef :: undef :: undef :: undef :: undef :: undef :: undef :: undef :: undef :: undef :: undef :: undef :: undef :: []), defers := [] } ∧ (Below w5.heap.size w5 w) ∧ (l 8 = true → w5.heap.size ≤ bz ∧ ∃ arr : Array Value, arr.size = e.R.size ∧ Row w bz 37 arr) ∧ (l 4 = true → e1.nu = N m ∧ w.ownsRow w5.heap.size 42 3 v1 m (outs N m))) (by kernel_rfl) ?s0 ?ss ?se
 case s0 => exact ⟨e, undef, 0, rfl, (Below.refl _ _).drew, (fun h => by cases h), (fun h => by cases h)⟩
 case ss =>
  refine OG.Steps.cons rfl (fun l a w K hK hJ hcl h0 hd => ?_) (OG.Steps.cons rfl (fun l a w K hK hJ hcl h0 hd => ?_) (OG.Steps.cons rfl (fun l a w K hK hJ hcl h0 hd => ?_) (OG.Steps.cons rfl (fun l a w K hK hJ hcl h0 hd => ?_) (OG.Steps.cons rfl (fun l a w K hK hJ hcl h0 hd => ?_) (OG.Steps.cons rfl (fun l a w K hK hJ hcl h0 hd => ?_) (OG.Steps.cons rfl (fun l a w K hK hJ hcl h0 hd => ?_) (OG.Steps.cons rfl (fun l a w K hK hJ hcl h0 hd => ?_) (OG.Steps.cons rfl (fun l a w K hK hJ hcl h0 hd => ?_) (OG.Steps.cons rfl (fun l a w K hK hJ hcl h0 hd => ?_) (OG.Steps.cons rfl (fun l a w K hK hJ hcl h0 hd => ?_) OG.Steps.nil))))))))))
  · obtain ⟨e1, v1, bz, rfl, hP0, hP1, hP2⟩ := hJ
    have HJ := Lib.hid (And.intro hP0 (And.intro hP1 (hP2)))
    clear hP0 hP1 hP2 hd hcl h0
    refine wp_load_mid 24 (.tmp 3) rfl z 0 rfl c.row.toList _ (Row.whole (Py.out.below HJ.out.1 Py.out.lt)) Try.underlying24 rfl i24.out ?_
    exact hK.out _ _ ⟨e1, v1, bz, (rfl), (HJ.out.1), (HJ.out.2.1), (HJ.out.2.2)⟩
  · obtain ⟨e1, v1, bz, rfl, hP0, hP1, hP2⟩ := hJ
    have HJ := Lib.hid (And.intro hP0 (And.intro hP1 (hP2)))
    clear hP0 hP1 hP2 hd hcl h0
    go_simp
    exact hK.out _ _ ⟨e1, v1, bz, (rfl), (HJ.out.1), (HJ.out.2.1), (HJ.out.2.2)⟩
  · obtain ⟨e1, v1, bz, rfl, hP0, hP1, hP2⟩ := hJ
    have HJ := Lib.hid (And.intro hP0 (And.intro hP1 (hP2)))
    clear hP0 hP1 hP2 hd hcl h0
    go_simp
    exact hK.out _ _ ⟨e1, v1, bz, (rfl), (HJ.out.1), (HJ.out.2.1), (HJ.out.2.2)⟩
  · obtain ⟨e1, v1, bz, rfl, hP0, hP1, hP2⟩ := hJ
    have d1 := hd.get 1 (by rfl)
    have d2 := hd.get 2 (by rfl)
    have HJ := Lib.hid (And.intro hP0 (And.intro hP1 (hP2)))
    clear hP0 hP1 hP2 hd hcl h0
    have g0 : (0 : Int) ≤ (m : Int) := by omega
    have g1 : (m : Int) ≤ (cp : Int) := by have := HM.out; have := HC.out.1; omega
    go_simp
    exact hK.out _ _ ⟨e1, v1, bz, (by simp only [OG.upd, d1, d2]; rfl), (HJ.out.1), (HJ.out.2.1), (HJ.out.2.2)⟩
  · obtain ⟨e1, v1, bz, rfl, hP0, hP1, hP2⟩ := hJ
    have d0 := hd.get 0 (by rfl)
    have d3 := hd.get 3 (by rfl)
    have f5 := hcl.off 5 4 (by rfl) h0
    have f6 := hcl.off 6 5 (by rfl) f5
    have f7 := hcl.off 7 5 (by rfl) f5
    have f10 := hcl.off 10 7 (by rfl) f7
    have HJ := Lib.hid (And.intro hP0 (And.intro hP1 (hP2)))
    clear hP0 hP1 hP2 hd hcl h0
    go_simp
    refine (FD.out _ (B5.out.trans (HJ.out.1.mono B5.out.size))).mono ?_
    rintro x w' ⟨e2, v2, hn, rfl, ho, hb⟩
    exact hK.out _ _ ⟨e2, v2, bz, (by simp only [OG.upd, d0, d3, f5, f6, f7, f10]; rfl), (HJ.out.1.trans (hb.mono HJ.out.1.size)), (fun h => ⟨(HJ.out.2.1 h).1, (HJ.out.2.1 h).2.imp fun arr q => ⟨q.1, q.2.below hb q.2.lt⟩⟩), (fun _ => ⟨hn, ownsRow_base ho HJ.out.1.size⟩)⟩
  · obtain ⟨e1, v1, bz, rfl, hP0, hP1, hP2⟩ := hJ
    have d4 := hd.get 4 (by rfl)
    have HJ := Lib.hid (And.intro hP0 (And.intro hP1 (hP2)))
    clear hP0 hP1 hP2 hd hcl h0
    go_simp
    exact hK.out _ _ ⟨e1, v1, bz, (by simp only [OG.upd, d4]; rfl), (HJ.out.1), (HJ.out.2.1), (HJ.out.2.2)⟩
  · obtain ⟨e1, v1, bz, rfl, hP0, hP1, hP2⟩ := hJ
    have d5 := hd.get 5 (by rfl)
    have HJ := Lib.hid (And.intro hP0 (And.intro hP1 (hP2)))
    clear hP0 hP1 hP2 hd hcl h0
    go_simp
    exact hK.out _ _ ⟨e1, v1, bz, (by simp only [OG.upd, d5]; rfl), (HJ.out.1), (HJ.out.2.1), (HJ.out.2.2)⟩
  · obtain ⟨e1, v1, bz, rfl, hP0, hP1, hP2⟩ := hJ
    have d5 := hd.get 5 (by rfl)
    have HJ := Lib.hid (And.intro hP0 (And.intro hP1 (hP2)))
    clear hP0 hP1 hP2 hd hcl h0
    go_simp
    exact hK.out _ _ ⟨e1, v1, bz, (by simp only [OG.upd, d5]; rfl), (HJ.out.1), (HJ.out.2.1), (HJ.out.2.2)⟩
  · obtain ⟨e1, v1, bz, rfl, hP0, hP1, hP2⟩ := hJ
    have HJ := Lib.hid (And.intro hP0 (And.intro hP1 (hP2)))
    clear hP0 hP1 hP2 hd hcl h0
    go_simp
    exact hK.out _ _ ⟨e1, v1, w.heap.size, (rfl), (HJ.out.1.alloc HJ.out.1.size _), (fun _ => ⟨HJ.out.1.size, #[.int .i64 0, .int .i64 0, .int .i64 0, .int .i64 0, .int .i64 0, .int .i64 0, .slice none 0 0, .int .i64 0, .int .i64 0, .slice none 0 0, .int .i64 0, .int .i64 0, .slice none 0 0, .int .i64 0, .int .i64 0, .slice none 0 0, .int .i64 0, .int .i64 0, .slice none 0 0, .int .i64 0, .int .i64 0, .slice none 0 0, .int .i64 0, .int .i64 0, .int .i64 0, .int .i64 0, .int .i64 0, .int .i64 0, .bool false], rfl, Row.new w 37 _⟩), (fun h => ⟨(HJ.out.2.2 h).1, (HJ.out.2.2 h).2.alloc _⟩)⟩
  · obtain ⟨e1, v1, bz, rfl, hP0, hP1, hP2⟩ := hJ
    have d8 := hd.get 8 (by rfl)
    have d6 := hd.get 6 (by rfl)
    have HJ := Lib.hid (And.intro hP0 (And.intro hP1 (hP2)))
    clear hP0 hP1 hP2 hd hcl h0
    obtain ⟨hle, arr, hsz, hrow⟩ := HJ.out.2.1 d8
    refine wp_store_mid 37 (.tmp 10) (.tmp 57) rfl bz 0 e1.R (by show cond (l 8) _ _ = _; rw [d8]; rfl) (by show cond (l 6) _ _ = _; rw [d6]; rfl) (by have h := Row.there hrow; rw [hsz] at h; exact h) xZ.out (by kernel_rfl) ?_
    exact hK.out _ _ ⟨e1, v1, bz, (by simp only [OG.upd, d8, d6]; rfl), (KK.dF _ _ _ HJ.out.1 hle), (fun _ => ⟨hle, e1.R, rfl, Row.full hrow e1.R hsz.symm⟩), (fun h => ⟨(HJ.out.2.2 h).1, gp (HJ.out.2.2 h).2 (fun g hg => OG.dA _ _ _ _ (ownsRow_ne (HJ.out.2.2 h).2 hrow (by decide) g hg))⟩)⟩
  · obtain ⟨e1, v1, bz, rfl, hP0, hP1, hP2⟩ := hJ
    have d7 := hd.get 7 (by rfl)
    have HJ := Lib.hid (And.intro hP0 (And.intro hP1 (hP2)))
    clear hP0 hP1 hP2 hd hcl h0
    go_simp
    exact hK.out _ _ ⟨e1, v1, bz, (by simp only [OG.upd, d7]; rfl), (HJ.out.1), (HJ.out.2.1), (HJ.out.2.2)⟩
 case se =>
  intro l a w hJ he
  obtain ⟨e1, v1, bz, rfl, hP0, hP1, hP2⟩ := hJ
  rw [he 0 (by decide), he 1 (by decide), he 2 (by decide), he 3 (by decide), he 4 (by decide), he 5 (by decide), he 6 (by decide), he 7 (by decide), he 8 (by decide), he 10 (by decide)]
  obtain ⟨hn1, hv⟩ := hP2 (he 4 (by decide))
  have B6 : Hid (Below ws.heap.size ws w) := Lib.hid (B5.out.trans (hP0.mono B5.out.size))
  have Xh := Lib.hid ((Py.out.below hP0 Py.out.lt : Row w z 24 c.row))
  have RG6 := Lib.hid (Y1.out.below hP0)
  obtain ⟨G2, cap2, rfl, -, -, hG2⟩ := vk hv (by have := PW.out; have := HM.out; omega)
  rw [mD]
  have RS6 := Lib.hid hG2
  clear hP0 hP1 hP2 he hv hG2 hn1 B5 Py Y1 FD i24 xZ
  simp only [cond_true]
  have VC : Hid (∀ w', Below w.heap.size w w' → Calls Try.prog 32 #[.slice G2 m cap2, .slice G m cap] w' fun x w2 => x = .returned (.bool true) ∧ Below w'.heap.size w' w2) := Lib.hid (fun w' h => by
   have H := Ar (kP N m) ((kP N log.length).take m) G2 G cap2 cap w' (RS6.out.below h) (by rw [List.map_take]; exact (RG6.out.below h).take m)
   rw [Bf N HM.out, mD] at H
   refine H.mono ?_
   rintro x w2 ⟨r, rfl, hr, hb⟩
   exact ⟨by rw [hr.2 rfl], hb⟩)
  have BC : Hid (∀ w', Below ws.heap.size ws w' → Calls Try.prog 24 #[.slice A m cp, .slice A log.length cp] w' fun x w2 => x = .returned (.bool true) ∧ Below w'.heap.size w' w2) := Lib.hid (fun w' h => zL log A cp m HM.out w' (HL.out.below h) HC.out.1 HC.out.2)
  have g0 : (0 : Int) ≤ (m : Int) := by omega
  have g1 : (m : Int) ≤ (cp : Int) := by have := HM.out; have := HC.out.1; omega
  have g2 : (m : Int) ≤ (cap : Int) := by have := HM.out; have := CG.out; omega
  have d1 : ((log.length : Int) != (log.length : Int)) = false := by simp
  have d2 : ((m : Int) != (m : Int)) = false := by simp
  clear RG6 RS6
  go_wp2_with fail
  refine (VC.out _ (Below.refl _ _)).mono ?_
  rintro x w7 ⟨rfl, hb⟩
  have Y2 := Lib.hid ((Xh.out.below hb Xh.out.lt : Row w7 z 24 c.row))
  have B7 : Hid (Below ws.heap.size ws w7) := Lib.hid (B6.out.trans (hb.mono B6.out.size))
  clear hb Xh B6 VC
  go_wp2_with fail
  refine (BC.out _ B7.out).mono ?_
  rintro x w8 ⟨rfl, hb⟩
  have Xg := Lib.hid ((Y2.out.below hb Y2.out.lt : Row w8 z 24 c.row))
  have B8 : Hid (Below ws.heap.size ws w8) := Lib.hid (B7.out.trans (hb.mono B7.out.size))
  clear hb Y2 B7 BC d1 d2
  obtain ⟨r1, hr1⟩ : ∃ r : Bool, (r = true ↔ ∀ o ∈ os, ¬ bad (kP N m) o) := by
   by_cases h : ∀ o ∈ os, ¬ bad (kP N m) o
   · exact ⟨true, by simpa using h⟩
   · exact ⟨false, ⟨fun e => (by cases e), fun e => absurd e h⟩⟩
  have C1 : Hid (∀ w', Below ws.heap.size ws w' → Calls Try.prog 33 #[.agg c.row, .slice A m cp, .slice B os.length cb] w' fun x w2 => x = .returned (.bool r1) ∧ Below w'.heap.size w' w2) := Lib.hid (fun w' h => (GB.out w' h).mono (by
   rintro x w2 ⟨r, rfl, hr, hb⟩
   exact ⟨by rw [Bool.eq_iff_iff.2 (hr.trans hr1.symm)], hb⟩))
  have C2 : Hid (∀ w', r1 = true → Below ws.heap.size ws w' → Calls Try.prog 33 #[.agg c.row, .slice A log.length cp, .slice B os.length cb] w' fun x w2 => x = .returned (.bool true) ∧ Below w'.heap.size w' w2) := Lib.hid (fun w' e h => (GA.out w' h).mono (by
   rintro x w2 ⟨r, rfl, hr, hb⟩
   exact ⟨by rw [hr.2 (fun o ho hbad => hr1.1 e o ho (fun v h0 hv => hbad v h0 (by rw [← Bf N HM.out, List.getElem?_take] at hv; split at hv; exact hv; cases hv)))], hb⟩))
  clear GA GB hr1
  have i24 : Hid ((Try.prog.info? 24).map (·.size) = some c.row.toList.length) := Lib.hid (by kernel_rfl)
  go_upto_region 12 with fail
  cases r1
  case false =>
   refine OG.fF (by kernel_rfl) (fun l a w => a = { tmps := List.toArray (Value.agg #[I c.dt, I c.acc, I c.bias, I c.dJ, I c.dY, I c.gate, Value.slice A log.length cp, I m, Value.slice B os.length cb] :: Value.pointer (some ⟨ws.heap.size, 0, none⟩) :: (bif l 16 then Value.bool true else Value.bool false) :: Value.pointer (some ⟨z, 0, none⟩) :: Value.slice A log.length cp :: I m :: Value.slice B os.length cb :: Value.bool true :: Value.pointer (some ⟨z8, 0, none⟩) :: Value.slice G log.length cap :: Value.pointer (some ⟨bz, 0, none⟩) :: Value.slice G2 m cap2 :: Value.pointer (some ⟨ws.heap.size, 0, none⟩) :: Value.agg #[I c.dt, I c.acc, I c.bias, I c.dJ, I c.dY, I c.gate] :: Value.pointer (some ⟨ws.heap.size, 6, none⟩) :: Value.slice A log.length cp :: Value.pointer (some ⟨ws.heap.size, 7, none⟩) :: I m :: Value.pointer (some ⟨ws.heap.size, 8, none⟩) :: Value.slice B os.length cb :: Value.bool true :: Value.agg #[I c.dt, I c.acc, I c.bias, I c.dJ, I c.dY, I c.gate] :: Value.bool true :: Value.bool false :: Value.bool false :: Value.slice A log.length cp :: I log.length :: Value.bool false :: Value.bool false :: Value.bool false :: Value.slice B os.length cb :: I os.length :: Value.bool false :: Value.bool false :: Value.bool false :: I m :: Value.bool false :: Value.bool false :: Value.bool false :: I m :: Value.slice A log.length cp :: I log.length :: Value.bool false :: Value.bool false :: undef :: Value.tuple #[Value.agg e.R, Value.slice G log.length cap] :: Value.agg #[I c.dt, I c.acc, I c.bias, I c.dJ, I c.dY, I c.gate] :: Value.slice A log.length cp :: Value.tuple #[Value.agg e.R, Value.slice G log.length cap] :: Value.agg e.R :: Value.slice G log.length cap :: Value.tuple #[Value.agg e1.R, Value.slice G2 m cap2] :: Value.agg c.row :: Value.slice A log.length cp :: I m :: Value.slice A m cp :: Value.tuple #[Value.agg e1.R, Value.slice G2 m cap2] :: Value.agg e1.R :: Value.slice G2 m cap2 :: Value.slice G log.length cap :: I log.length :: Value.slice A log.length cp :: I log.length :: Value.bool false :: Value.bool false :: Value.slice G2 m cap2 :: I m :: I m :: Value.bool false :: Value.bool false :: Value.bool false :: Value.slice G2 m cap2 :: Value.slice G log.length cap :: I m :: Value.slice G m cap :: Value.bool true :: Value.bool false :: Value.bool false :: Value.bool false :: Value.slice A log.length cp :: I m :: Value.slice A m cp :: Value.slice A log.length cp :: Value.bool true :: Value.bool false :: Value.bool false :: (bif l 0 then Value.bool true else undef) :: (bif l 1 then Value.bool true else undef) :: (bif l 2 then .agg c.row else undef) :: (bif l 3 then Value.slice A log.length cp else undef) :: (bif l 4 then I m else undef) :: (bif l 5 then Value.slice A m cp else undef) :: (bif l 6 then Value.slice B os.length cb else undef) :: (bif l 7 then Value.bool false else undef) :: (bif l 8 then Value.bool true else undef) :: (bif l 9 then Value.bool true else undef) :: undef :: undef :: undef :: undef :: (bif l 14 then Value.bool true else undef) :: (bif l 15 then Value.bool true else undef) :: []), defers := [] } ∧ (Below w8.heap.size w8 w)) (by kernel_rfl) ?s0 ?ss ?se
   case s0 => exact ⟨rfl, (Below.refl _ _).drew⟩
   case ss =>
    refine OG.Steps.cons rfl (fun l a w K hK hJ hcl h0 hd => ?_) (OG.Steps.cons rfl (fun l a w K hK hJ hcl h0 hd => ?_) (OG.Steps.yes (gi := 1) (dst := 87) rfl rfl (fun l a w hJ hd => by obtain ⟨rfl, hP0⟩ := hJ; have dg := hd.get 1 (by rfl); show (some (bif l 1 then Value.bool true else undef) : Option Value) = some _; rw [dg]; rfl) (fun l a w K hK hJ hcl h0 hd => ?_) (OG.Steps.yes (gi := 1) (dst := 87) rfl rfl (fun l a w hJ hd => by obtain ⟨rfl, hP0⟩ := hJ; have dg := hd.get 1 (by rfl); show (some (bif l 1 then Value.bool true else undef) : Option Value) = some _; rw [dg]; rfl) (fun l a w K hK hJ hcl h0 hd => ?_) (OG.Steps.yes (gi := 1) (dst := 87) rfl rfl (fun l a w hJ hd => by obtain ⟨rfl, hP0⟩ := hJ; have dg := hd.get 1 (by rfl); show (some (bif l 1 then Value.bool true else undef) : Option Value) = some _; rw [dg]; rfl) (fun l a w K hK hJ hcl h0 hd => ?_) (OG.Steps.yes (gi := 1) (dst := 87) rfl rfl (fun l a w hJ hd => by obtain ⟨rfl, hP0⟩ := hJ; have dg := hd.get 1 (by rfl); show (some (bif l 1 then Value.bool true else undef) : Option Value) = some _; rw [dg]; rfl) (fun l a w K hK hJ hcl h0 hd => ?_) (OG.Steps.yes (gi := 1) (dst := 87) rfl rfl (fun l a w hJ hd => by obtain ⟨rfl, hP0⟩ := hJ; have dg := hd.get 1 (by rfl); show (some (bif l 1 then Value.bool true else undef) : Option Value) = some _; rw [dg]; rfl) (fun l a w K hK hJ hcl h0 hd => ?_) (OG.Steps.yes (gi := 1) (dst := 87) rfl rfl (fun l a w hJ hd => by obtain ⟨rfl, hP0⟩ := hJ; have dg := hd.get 1 (by rfl); show (some (bif l 1 then Value.bool true else undef) : Option Value) = some _; rw [dg]; rfl) (fun l a w K hK hJ hcl h0 hd => ?_) (OG.Steps.yes (gi := 1) (dst := 87) rfl rfl (fun l a w hJ hd => by obtain ⟨rfl, hP0⟩ := hJ; have dg := hd.get 1 (by rfl); show (some (bif l 1 then Value.bool true else undef) : Option Value) = some _; rw [dg]; rfl) (fun l a w K hK hJ hcl h0 hd => ?_) (OG.Steps.yes (gi := 1) (dst := 87) rfl rfl (fun l a w hJ hd => by obtain ⟨rfl, hP0⟩ := hJ; have dg := hd.get 1 (by rfl); show (some (bif l 1 then Value.bool true else undef) : Option Value) = some _; rw [dg]; rfl) (fun l a w K hK hJ hcl h0 hd => ?_) (OG.Steps.no (gi := 9) (dst := 95) rfl rfl (fun l a w hJ hd => by obtain ⟨rfl, hP0⟩ := hJ; have dg := hd.get 9 (by rfl); show (some (bif l 9 then Value.bool true else undef) : Option Value) = some _; rw [dg]; rfl) (fun l a w K hK hJ hcl h0 hd => ?_) (OG.Steps.no (gi := 9) (dst := 95) rfl rfl (fun l a w hJ hd => by obtain ⟨rfl, hP0⟩ := hJ; have dg := hd.get 9 (by rfl); show (some (bif l 9 then Value.bool true else undef) : Option Value) = some _; rw [dg]; rfl) (fun l a w K hK hJ hcl h0 hd => ?_) (OG.Steps.no (gi := 9) (dst := 95) rfl rfl (fun l a w hJ hd => by obtain ⟨rfl, hP0⟩ := hJ; have dg := hd.get 9 (by rfl); show (some (bif l 9 then Value.bool true else undef) : Option Value) = some _; rw [dg]; rfl) (fun l a w K hK hJ hcl h0 hd => ?_) (OG.Steps.no (gi := 9) (dst := 95) rfl rfl (fun l a w hJ hd => by obtain ⟨rfl, hP0⟩ := hJ; have dg := hd.get 9 (by rfl); show (some (bif l 9 then Value.bool true else undef) : Option Value) = some _; rw [dg]; rfl) (fun l a w K hK hJ hcl h0 hd => ?_) (OG.Steps.yes (gi := 1) (dst := 87) rfl rfl (fun l a w hJ hd => by obtain ⟨rfl, hP0⟩ := hJ; have dg := hd.get 1 (by rfl); show (some (bif l 1 then Value.bool true else undef) : Option Value) = some _; rw [dg]; rfl) (fun l a w K hK hJ hcl h0 hd => ?_) (OG.Steps.cons rfl (fun l a w K hK hJ hcl h0 hd => ?_) (OG.Steps.cons rfl (fun l a w K hK hJ hcl h0 hd => ?_) OG.Steps.nil))))))))))))))))
    · obtain ⟨rfl, hP0⟩ := hJ
      have HJ := Lib.hid (hP0)
      clear hP0 hd hcl h0
      go_simp
      exact hK.out _ _ ⟨(rfl), (HJ.out)⟩
    · obtain ⟨rfl, hP0⟩ := hJ
      have d0 := hd.get 0 (by rfl)
      have HJ := Lib.hid (hP0)
      clear hP0 hd hcl h0
      go_simp
      exact hK.out _ _ ⟨(by simp only [OG.upd, d0]; rfl), (HJ.out)⟩
    · obtain ⟨rfl, hP0⟩ := hJ
      have HJ := Lib.hid (hP0)
      clear hP0 hd hcl h0
      refine wp_load_mid 24 (.tmp 3) rfl z 0 rfl c.row.toList _ (Row.whole (Xg.out.below HJ.out Xg.out.lt)) Try.underlying24 rfl i24.out ?_
      exact hK.out _ _ ⟨(rfl), (HJ.out)⟩
    · obtain ⟨rfl, hP0⟩ := hJ
      have HJ := Lib.hid (hP0)
      clear hP0 hd hcl h0
      go_simp
      exact hK.out _ _ ⟨(rfl), (HJ.out)⟩
    · obtain ⟨rfl, hP0⟩ := hJ
      have HJ := Lib.hid (hP0)
      clear hP0 hd hcl h0
      go_simp
      exact hK.out _ _ ⟨(rfl), (HJ.out)⟩
    · obtain ⟨rfl, hP0⟩ := hJ
      have d3 := hd.get 3 (by rfl)
      have d4 := hd.get 4 (by rfl)
      have HJ := Lib.hid (hP0)
      clear hP0 hd hcl h0
      have g0 : (0 : Int) ≤ (m : Int) := by omega
      have g1 : (m : Int) ≤ (cp : Int) := by have := HM.out; have := HC.out.1; omega
      go_simp
      exact hK.out _ _ ⟨(by simp only [OG.upd, d3, d4]; rfl), (HJ.out)⟩
    · obtain ⟨rfl, hP0⟩ := hJ
      have HJ := Lib.hid (hP0)
      clear hP0 hd hcl h0
      go_simp
      exact hK.out _ _ ⟨(rfl), (HJ.out)⟩
    · obtain ⟨rfl, hP0⟩ := hJ
      have d2 := hd.get 2 (by rfl)
      have d5 := hd.get 5 (by rfl)
      have d6 := hd.get 6 (by rfl)
      have HJ := Lib.hid (hP0)
      clear hP0 hd hcl h0
      go_simp
      refine (C1.out _ (B8.out.trans (HJ.out.mono B8.out.size))).mono ?_
      rintro x w' ⟨rfl, hb⟩
      exact hK.out _ _ ⟨(by simp only [OG.upd, d2, d5, d6]; rfl), (HJ.out.trans (hb.mono HJ.out.size))⟩
    · obtain ⟨rfl, hP0⟩ := hJ
      have d7 := hd.get 7 (by rfl)
      have HJ := Lib.hid (hP0)
      clear hP0 hd hcl h0
      go_simp
      exact hK.out _ _ ⟨(by simp only [OG.upd, d7]; rfl), (HJ.out)⟩
    · obtain ⟨rfl, hP0⟩ := hJ
      have d8 := hd.get 8 (by rfl)
      have HJ := Lib.hid (hP0)
      clear hP0 hd hcl h0
      go_simp
      exact hK.out _ _ ⟨(by simp only [OG.upd, d8]; rfl), (HJ.out)⟩
    · obtain ⟨rfl, hP0⟩ := hJ
      have HJ := Lib.hid (hP0)
      clear hP0 hd hcl h0
      exact hK.out _ _ ⟨(rfl), (HJ.out)⟩
    · obtain ⟨rfl, hP0⟩ := hJ
      have HJ := Lib.hid (hP0)
      clear hP0 hd hcl h0
      exact hK.out _ _ ⟨(rfl), (HJ.out)⟩
    · obtain ⟨rfl, hP0⟩ := hJ
      have HJ := Lib.hid (hP0)
      clear hP0 hd hcl h0
      exact hK.out _ _ ⟨(rfl), (HJ.out)⟩
    · obtain ⟨rfl, hP0⟩ := hJ
      have HJ := Lib.hid (hP0)
      clear hP0 hd hcl h0
      exact hK.out _ _ ⟨(rfl), (HJ.out)⟩
    · obtain ⟨rfl, hP0⟩ := hJ
      have d9 := hd.get 9 (by rfl)
      have d13 := hd.get 13 (by rfl)
      have HJ := Lib.hid (hP0)
      clear hP0 hd hcl h0
      go_simp
      exact hK.out _ _ ⟨(by simp only [OG.upd, d9, d13]; rfl), (HJ.out)⟩
    · obtain ⟨rfl, hP0⟩ := hJ
      have d1 := hd.get 1 (by rfl)
      have d14 := hd.get 14 (by rfl)
      have HJ := Lib.hid (hP0)
      clear hP0 hd hcl h0
      go_simp
      exact hK.out _ _ ⟨(by simp only [OG.upd, d1, d14]; rfl), (HJ.out)⟩
    · obtain ⟨rfl, hP0⟩ := hJ
      have d15 := hd.get 15 (by rfl)
      have HJ := Lib.hid (hP0)
      clear hP0 hd hcl h0
      go_simp
      exact hK.out _ _ ⟨(by simp only [OG.upd, d15]; rfl), (HJ.out)⟩
   case se =>
    intro l a w hJ he
    obtain ⟨rfl, hP0⟩ := hJ
    rw [he 0 (by decide), he 1 (by decide), he 2 (by decide), he 3 (by decide), he 4 (by decide), he 5 (by decide), he 6 (by decide), he 7 (by decide), he 8 (by decide), he 9 (by decide), he 14 (by decide), he 15 (by decide), he 16 (by decide)]
    have B9 := Lib.hid (B8.out.trans (hP0.mono B8.out.size))
    clear hP0 he
    simp only [cond_true]
    go_wp2
    exact bodyPost_ret (results_tmp rfl _ _ _) rfl ⟨rfl, B9.out⟩
  case true =>
   refine OG.fF (by kernel_rfl) (fun l a w => a = { tmps := List.toArray (Value.agg #[I c.dt, I c.acc, I c.bias, I c.dJ, I c.dY, I c.gate, Value.slice A log.length cp, I m, Value.slice B os.length cb] :: Value.pointer (some ⟨ws.heap.size, 0, none⟩) :: (bif l 16 then Value.bool true else Value.bool false) :: Value.pointer (some ⟨z, 0, none⟩) :: Value.slice A log.length cp :: I m :: Value.slice B os.length cb :: Value.bool true :: Value.pointer (some ⟨z8, 0, none⟩) :: Value.slice G log.length cap :: Value.pointer (some ⟨bz, 0, none⟩) :: Value.slice G2 m cap2 :: Value.pointer (some ⟨ws.heap.size, 0, none⟩) :: Value.agg #[I c.dt, I c.acc, I c.bias, I c.dJ, I c.dY, I c.gate] :: Value.pointer (some ⟨ws.heap.size, 6, none⟩) :: Value.slice A log.length cp :: Value.pointer (some ⟨ws.heap.size, 7, none⟩) :: I m :: Value.pointer (some ⟨ws.heap.size, 8, none⟩) :: Value.slice B os.length cb :: Value.bool true :: Value.agg #[I c.dt, I c.acc, I c.bias, I c.dJ, I c.dY, I c.gate] :: Value.bool true :: Value.bool false :: Value.bool false :: Value.slice A log.length cp :: I log.length :: Value.bool false :: Value.bool false :: Value.bool false :: Value.slice B os.length cb :: I os.length :: Value.bool false :: Value.bool false :: Value.bool false :: I m :: Value.bool false :: Value.bool false :: Value.bool false :: I m :: Value.slice A log.length cp :: I log.length :: Value.bool false :: Value.bool false :: undef :: Value.tuple #[Value.agg e.R, Value.slice G log.length cap] :: Value.agg #[I c.dt, I c.acc, I c.bias, I c.dJ, I c.dY, I c.gate] :: Value.slice A log.length cp :: Value.tuple #[Value.agg e.R, Value.slice G log.length cap] :: Value.agg e.R :: Value.slice G log.length cap :: Value.tuple #[Value.agg e1.R, Value.slice G2 m cap2] :: Value.agg c.row :: Value.slice A log.length cp :: I m :: Value.slice A m cp :: Value.tuple #[Value.agg e1.R, Value.slice G2 m cap2] :: Value.agg e1.R :: Value.slice G2 m cap2 :: Value.slice G log.length cap :: I log.length :: Value.slice A log.length cp :: I log.length :: Value.bool false :: Value.bool false :: Value.slice G2 m cap2 :: I m :: I m :: Value.bool false :: Value.bool false :: Value.bool false :: Value.slice G2 m cap2 :: Value.slice G log.length cap :: I m :: Value.slice G m cap :: Value.bool true :: Value.bool false :: Value.bool false :: Value.bool false :: Value.slice A log.length cp :: I m :: Value.slice A m cp :: Value.slice A log.length cp :: Value.bool true :: Value.bool false :: Value.bool false :: (bif l 0 then Value.bool true else undef) :: (bif l 1 then Value.bool true else undef) :: (bif l 2 then .agg c.row else undef) :: (bif l 3 then Value.slice A log.length cp else undef) :: (bif l 4 then I m else undef) :: (bif l 5 then Value.slice A m cp else undef) :: (bif l 6 then Value.slice B os.length cb else undef) :: (bif l 7 then Value.bool true else undef) :: (bif l 8 then Value.bool false else undef) :: (bif l 9 then Value.bool false else undef) :: (bif l 10 then .agg c.row else undef) :: (bif l 11 then Value.slice A log.length cp else undef) :: (bif l 12 then Value.slice B os.length cb else undef) :: (bif l 13 then Value.bool true else undef) :: (bif l 14 then Value.bool true else undef) :: (bif l 15 then Value.bool true else undef) :: []), defers := [] } ∧ (Below w8.heap.size w8 w)) (by kernel_rfl) ?s0 ?ss ?se
   case s0 => exact ⟨rfl, (Below.refl _ _).drew⟩
   case ss =>
    refine OG.Steps.cons rfl (fun l a w K hK hJ hcl h0 hd => ?_) (OG.Steps.cons rfl (fun l a w K hK hJ hcl h0 hd => ?_) (OG.Steps.yes (gi := 1) (dst := 87) rfl rfl (fun l a w hJ hd => by obtain ⟨rfl, hP0⟩ := hJ; have dg := hd.get 1 (by rfl); show (some (bif l 1 then Value.bool true else undef) : Option Value) = some _; rw [dg]; rfl) (fun l a w K hK hJ hcl h0 hd => ?_) (OG.Steps.yes (gi := 1) (dst := 87) rfl rfl (fun l a w hJ hd => by obtain ⟨rfl, hP0⟩ := hJ; have dg := hd.get 1 (by rfl); show (some (bif l 1 then Value.bool true else undef) : Option Value) = some _; rw [dg]; rfl) (fun l a w K hK hJ hcl h0 hd => ?_) (OG.Steps.yes (gi := 1) (dst := 87) rfl rfl (fun l a w hJ hd => by obtain ⟨rfl, hP0⟩ := hJ; have dg := hd.get 1 (by rfl); show (some (bif l 1 then Value.bool true else undef) : Option Value) = some _; rw [dg]; rfl) (fun l a w K hK hJ hcl h0 hd => ?_) (OG.Steps.yes (gi := 1) (dst := 87) rfl rfl (fun l a w hJ hd => by obtain ⟨rfl, hP0⟩ := hJ; have dg := hd.get 1 (by rfl); show (some (bif l 1 then Value.bool true else undef) : Option Value) = some _; rw [dg]; rfl) (fun l a w K hK hJ hcl h0 hd => ?_) (OG.Steps.yes (gi := 1) (dst := 87) rfl rfl (fun l a w hJ hd => by obtain ⟨rfl, hP0⟩ := hJ; have dg := hd.get 1 (by rfl); show (some (bif l 1 then Value.bool true else undef) : Option Value) = some _; rw [dg]; rfl) (fun l a w K hK hJ hcl h0 hd => ?_) (OG.Steps.yes (gi := 1) (dst := 87) rfl rfl (fun l a w hJ hd => by obtain ⟨rfl, hP0⟩ := hJ; have dg := hd.get 1 (by rfl); show (some (bif l 1 then Value.bool true else undef) : Option Value) = some _; rw [dg]; rfl) (fun l a w K hK hJ hcl h0 hd => ?_) (OG.Steps.yes (gi := 1) (dst := 87) rfl rfl (fun l a w hJ hd => by obtain ⟨rfl, hP0⟩ := hJ; have dg := hd.get 1 (by rfl); show (some (bif l 1 then Value.bool true else undef) : Option Value) = some _; rw [dg]; rfl) (fun l a w K hK hJ hcl h0 hd => ?_) (OG.Steps.yes (gi := 1) (dst := 87) rfl rfl (fun l a w hJ hd => by obtain ⟨rfl, hP0⟩ := hJ; have dg := hd.get 1 (by rfl); show (some (bif l 1 then Value.bool true else undef) : Option Value) = some _; rw [dg]; rfl) (fun l a w K hK hJ hcl h0 hd => ?_) (OG.Steps.yes (gi := 9) (dst := 95) rfl rfl (fun l a w hJ hd => by obtain ⟨rfl, hP0⟩ := hJ; have dg := hd.get 9 (by rfl); show (some (bif l 9 then Value.bool false else undef) : Option Value) = some _; rw [dg]; rfl) (fun l a w K hK hJ hcl h0 hd => ?_) (OG.Steps.yes (gi := 9) (dst := 95) rfl rfl (fun l a w hJ hd => by obtain ⟨rfl, hP0⟩ := hJ; have dg := hd.get 9 (by rfl); show (some (bif l 9 then Value.bool false else undef) : Option Value) = some _; rw [dg]; rfl) (fun l a w K hK hJ hcl h0 hd => ?_) (OG.Steps.yes (gi := 9) (dst := 95) rfl rfl (fun l a w hJ hd => by obtain ⟨rfl, hP0⟩ := hJ; have dg := hd.get 9 (by rfl); show (some (bif l 9 then Value.bool false else undef) : Option Value) = some _; rw [dg]; rfl) (fun l a w K hK hJ hcl h0 hd => ?_) (OG.Steps.yes (gi := 9) (dst := 95) rfl rfl (fun l a w hJ hd => by obtain ⟨rfl, hP0⟩ := hJ; have dg := hd.get 9 (by rfl); show (some (bif l 9 then Value.bool false else undef) : Option Value) = some _; rw [dg]; rfl) (fun l a w K hK hJ hcl h0 hd => ?_) (OG.Steps.yes (gi := 1) (dst := 87) rfl rfl (fun l a w hJ hd => by obtain ⟨rfl, hP0⟩ := hJ; have dg := hd.get 1 (by rfl); show (some (bif l 1 then Value.bool true else undef) : Option Value) = some _; rw [dg]; rfl) (fun l a w K hK hJ hcl h0 hd => ?_) (OG.Steps.cons rfl (fun l a w K hK hJ hcl h0 hd => ?_) (OG.Steps.cons rfl (fun l a w K hK hJ hcl h0 hd => ?_) OG.Steps.nil))))))))))))))))
    · obtain ⟨rfl, hP0⟩ := hJ
      have HJ := Lib.hid (hP0)
      clear hP0 hd hcl h0
      go_simp
      exact hK.out _ _ ⟨(rfl), (HJ.out)⟩
    · obtain ⟨rfl, hP0⟩ := hJ
      have d0 := hd.get 0 (by rfl)
      have HJ := Lib.hid (hP0)
      clear hP0 hd hcl h0
      go_simp
      exact hK.out _ _ ⟨(by simp only [OG.upd, d0]; rfl), (HJ.out)⟩
    · obtain ⟨rfl, hP0⟩ := hJ
      have HJ := Lib.hid (hP0)
      clear hP0 hd hcl h0
      refine wp_load_mid 24 (.tmp 3) rfl z 0 rfl c.row.toList _ (Row.whole (Xg.out.below HJ.out Xg.out.lt)) Try.underlying24 rfl i24.out ?_
      exact hK.out _ _ ⟨(rfl), (HJ.out)⟩
    · obtain ⟨rfl, hP0⟩ := hJ
      have HJ := Lib.hid (hP0)
      clear hP0 hd hcl h0
      go_simp
      exact hK.out _ _ ⟨(rfl), (HJ.out)⟩
    · obtain ⟨rfl, hP0⟩ := hJ
      have HJ := Lib.hid (hP0)
      clear hP0 hd hcl h0
      go_simp
      exact hK.out _ _ ⟨(rfl), (HJ.out)⟩
    · obtain ⟨rfl, hP0⟩ := hJ
      have d3 := hd.get 3 (by rfl)
      have d4 := hd.get 4 (by rfl)
      have HJ := Lib.hid (hP0)
      clear hP0 hd hcl h0
      have g0 : (0 : Int) ≤ (m : Int) := by omega
      have g1 : (m : Int) ≤ (cp : Int) := by have := HM.out; have := HC.out.1; omega
      go_simp
      exact hK.out _ _ ⟨(by simp only [OG.upd, d3, d4]; rfl), (HJ.out)⟩
    · obtain ⟨rfl, hP0⟩ := hJ
      have HJ := Lib.hid (hP0)
      clear hP0 hd hcl h0
      go_simp
      exact hK.out _ _ ⟨(rfl), (HJ.out)⟩
    · obtain ⟨rfl, hP0⟩ := hJ
      have d2 := hd.get 2 (by rfl)
      have d5 := hd.get 5 (by rfl)
      have d6 := hd.get 6 (by rfl)
      have HJ := Lib.hid (hP0)
      clear hP0 hd hcl h0
      go_simp
      refine (C1.out _ (B8.out.trans (HJ.out.mono B8.out.size))).mono ?_
      rintro x w' ⟨rfl, hb⟩
      exact hK.out _ _ ⟨(by simp only [OG.upd, d2, d5, d6]; rfl), (HJ.out.trans (hb.mono HJ.out.size))⟩
    · obtain ⟨rfl, hP0⟩ := hJ
      have d7 := hd.get 7 (by rfl)
      have HJ := Lib.hid (hP0)
      clear hP0 hd hcl h0
      go_simp
      exact hK.out _ _ ⟨(by simp only [OG.upd, d7]; rfl), (HJ.out)⟩
    · obtain ⟨rfl, hP0⟩ := hJ
      have d8 := hd.get 8 (by rfl)
      have HJ := Lib.hid (hP0)
      clear hP0 hd hcl h0
      go_simp
      exact hK.out _ _ ⟨(by simp only [OG.upd, d8]; rfl), (HJ.out)⟩
    · obtain ⟨rfl, hP0⟩ := hJ
      have HJ := Lib.hid (hP0)
      clear hP0 hd hcl h0
      refine wp_load_mid 24 (.tmp 3) rfl z 0 rfl c.row.toList _ (Row.whole (Xg.out.below HJ.out Xg.out.lt)) Try.underlying24 rfl i24.out ?_
      exact hK.out _ _ ⟨(rfl), (HJ.out)⟩
    · obtain ⟨rfl, hP0⟩ := hJ
      have HJ := Lib.hid (hP0)
      clear hP0 hd hcl h0
      go_simp
      exact hK.out _ _ ⟨(rfl), (HJ.out)⟩
    · obtain ⟨rfl, hP0⟩ := hJ
      have HJ := Lib.hid (hP0)
      clear hP0 hd hcl h0
      go_simp
      exact hK.out _ _ ⟨(rfl), (HJ.out)⟩
    · obtain ⟨rfl, hP0⟩ := hJ
      have d10 := hd.get 10 (by rfl)
      have d11 := hd.get 11 (by rfl)
      have d12 := hd.get 12 (by rfl)
      have HJ := Lib.hid (hP0)
      clear hP0 hd hcl h0
      go_simp
      refine (C2.out _ rfl (B8.out.trans (HJ.out.mono B8.out.size))).mono ?_
      rintro x w' ⟨rfl, hb⟩
      exact hK.out _ _ ⟨(by simp only [OG.upd, d10, d11, d12]; rfl), (HJ.out.trans (hb.mono HJ.out.size))⟩
    · obtain ⟨rfl, hP0⟩ := hJ
      have d9 := hd.get 9 (by rfl)
      have d13 := hd.get 13 (by rfl)
      have HJ := Lib.hid (hP0)
      clear hP0 hd hcl h0
      go_simp
      exact hK.out _ _ ⟨(by simp only [OG.upd, d9, d13]; rfl), (HJ.out)⟩
    · obtain ⟨rfl, hP0⟩ := hJ
      have d1 := hd.get 1 (by rfl)
      have d14 := hd.get 14 (by rfl)
      have HJ := Lib.hid (hP0)
      clear hP0 hd hcl h0
      go_simp
      exact hK.out _ _ ⟨(by simp only [OG.upd, d1, d14]; rfl), (HJ.out)⟩
    · obtain ⟨rfl, hP0⟩ := hJ
      have d15 := hd.get 15 (by rfl)
      have HJ := Lib.hid (hP0)
      clear hP0 hd hcl h0
      go_simp
      exact hK.out _ _ ⟨(by simp only [OG.upd, d15]; rfl), (HJ.out)⟩
   case se =>
    intro l a w hJ he
    obtain ⟨rfl, hP0⟩ := hJ
    rw [he 0 (by decide), he 1 (by decide), he 2 (by decide), he 3 (by decide), he 4 (by decide), he 5 (by decide), he 6 (by decide), he 7 (by decide), he 8 (by decide), he 9 (by decide), he 10 (by decide), he 11 (by decide), he 12 (by decide), he 13 (by decide), he 14 (by decide), he 15 (by decide), he 16 (by decide)]
    have B9 := Lib.hid (B8.out.trans (hP0.mono B8.out.size))
    clear hP0 he
    simp only [cond_true]
    go_wp2
    exact bodyPost_ret (results_tmp rfl _ _ _) rfl ⟨rfl, B9.out⟩
end Go.Proofs.Ytnijhjbcjeohhaa.BB

namespace Go.Proofs.Ytnijhjbcjeohhaa.BB
open Go.RowKit Go.Proofs.Ytnijhjbcjeohhaa.KK Go.Proofs.Ytnijhjbcjeohhaa.EE Go.Proofs.af.aA Go.Proofs.af.aN Go.Proofs.af.aP
set_option linter.unusedVariables false
set_option linter.unusedSimpArgs false
theorem Ll (c : Cf) (hm : c.may = true) (log : List Sm) : ∃ N : Nat → En, N 0 = en0 ∧ (∀ k, k ≤ log.length → Gd (N k)) ∧ (∀ k s, log[k]? = some s → kX c (N k) s (N (k + 1))) ∧ ∀ k, k < log.length → PX (N (k + 1)) := by
 have hp := Jh hm
 have key : ∀ (n : En) (s : Sm), ∃ n', Gd n → kX c n s n' ∧ Gd n' ∧ PX n' := fun n s => by
  by_cases hG : Gd n
  · obtain ⟨n', h⟩ := M_ c n s hG hp.1 hp.2.1
    exact ⟨n', fun _ => h⟩
  · exact ⟨n, fun h => absurd h hG⟩
 let f : En → Sm → En := fun n s => Classical.choose (key n s)
 have hf : ∀ n s, Gd n → kX c n s (f n s) ∧ Gd (f n s) ∧ PX (f n s) := fun n s => Classical.choose_spec (key n s)
 let N : Nat → En := fun k => (log.take k).foldl f en0
 have hN : ∀ k s, log[k]? = some s → N (k + 1) = f (N k) s := fun k s h => by
  show (log.take (k + 1)).foldl f en0 = _
  rw [List.take_add_one, h]
  simp [N]
 have hG : ∀ k, k ≤ log.length → Gd (N k) := by
  intro k
  induction k with
  | zero => intro _; exact wU
  | succ k ih =>
    intro h
    obtain ⟨s, hs⟩ : ∃ s, log[k]? = some s := ⟨_, List.getElem?_eq_getElem (by omega)⟩
    rw [hN k s hs]
    exact (hf _ _ (ih (by omega))).2.1
 refine ⟨N, rfl, hG, fun k s h => ?_, fun k hk => ?_⟩
 · rw [hN k s h]
   exact (hf _ _ (hG k (by have := (List.getElem?_eq_some_iff.1 h).1; omega))).1
 · obtain ⟨s, hs⟩ : ∃ s, log[k]? = some s := ⟨_, List.getElem?_eq_getElem hk⟩
   rw [hN k s hs]
   exact (hf _ _ (hG k (by omega))).2.2
def oK (N : Nat → En) (k : Nat) : List Ou := (List.range k).map fun (j : Nat) => ⟨(j : Int) + 1, (N (j + 1)).x0.getD 0 0, (N (j + 1)).x1.getD 0 0, (N (j + 1)).x2.getD 0 0⟩
theorem kN (N : Nat → En) (k : Nat) : (oK N k).length = k := by simp [oK]
theorem KA (N : Nat → En) (k : Nat) : oK N (k + 1) = oK N k ++ [⟨(k : Int) + 1, (N (k + 1)).x0.getD 0 0, (N (k + 1)).x1.getD 0 0, (N (k + 1)).x2.getD 0 0⟩] := by simp [oK, List.range_succ]
theorem Dt (N : Nat → En) {k j : Nat} (h : j < k) : (kP N k)[j]? = some ⟨(N (j + 1)).x0.getD 0 0, (N (j + 1)).x1.getD 0 0, (N (j + 1)).x2.getD 0 0⟩ := by
 simp [kP, List.getElem?_range h]
theorem Dq (N : Nat → En) {k j : Nat} (h : j < k) : (oK N k)[j]? = some ⟨(j : Int) + 1, (N (j + 1)).x0.getD 0 0, (N (j + 1)).x1.getD 0 0, (N (j + 1)).x2.getD 0 0⟩ := by
 simp [oK, List.getElem?_range h]
theorem Be (N : Nat → En) (n : Nat) : ∀ o ∈ oK N n, ¬ bad (kP N n) o := fun o ho hb => by
 simp only [oK, List.mem_map, List.mem_range] at ho
 obtain ⟨j, hj, rfl⟩ := ho
 exact hb ⟨(N (j + 1)).x0.getD 0 0, (N (j + 1)).x1.getD 0 0, (N (j + 1)).x2.getD 0 0⟩ (by show (0 : Int) ≤ (j : Int) + 1 - 1; omega) (by
  show (kP N n)[((j : Int) + 1 - 1).toNat]? = _
  rw [show ((j : Int) + 1 - 1).toNat = j by omega]
  exact Dt N hj) ⟨rfl, rfl, rfl⟩
theorem out_bad (N : Nat → En) (n : Nat) (k a b c : Int) (h : k < 1 ∨ (n : Int) < k) : bad (kP N n) ⟨k, a, b, c⟩ := fun v h0 hv => by
 have h1 := (List.getElem?_eq_some_iff.1 hv).1
 rw [mD] at h1
 have h0' : (0 : Int) ≤ k - 1 := h0
 have h1' : (k - 1).toNat < n := h1
 omega
theorem Qh (N : Nat → En) (n j : Nat) (hj : j < n) (q : Int) : (∀ o ∈ (oK N n).set j ⟨(j : Int) + 1, q, (N (j + 1)).x1.getD 0 0, (N (j + 1)).x2.getD 0 0⟩, ¬ bad (kP N n) o) ↔ q = (N (j + 1)).x0.getD 0 0 := by
 constructor
 · intro h
   have hm : (⟨(j : Int) + 1, q, (N (j + 1)).x1.getD 0 0, (N (j + 1)).x2.getD 0 0⟩ : Ou) ∈ (oK N n).set j ⟨(j : Int) + 1, q, (N (j + 1)).x1.getD 0 0, (N (j + 1)).x2.getD 0 0⟩ := List.mem_set (by rw [kN]; exact hj) _
   have h2 := h _ hm
   refine Classical.byContradiction fun hq => h2 fun v h0 hv hh => hq ?_
   have e : ((j : Int) + 1 - 1).toNat = j := by omega
   have hv' : (kP N n)[((j : Int) + 1 - 1).toNat]? = some v := hv
   rw [e, Dt N hj] at hv'
   injection hv' with hv'
   subst hv'
   exact hh.1.symm
 · rintro rfl
   have e : (oK N n).set j ⟨(j : Int) + 1, (N (j + 1)).x0.getD 0 0, (N (j + 1)).x1.getD 0 0, (N (j + 1)).x2.getD 0 0⟩ = oK N n := by
    apply List.ext_getElem?
    intro i
    rw [List.getElem?_set]
    split
    · rename_i e
      subst e
      rw [Dq N hj, if_pos (by rw [kN]; exact hj)]
    · rfl
   rw [e]
   exact Be N n
theorem jX.set1 {w : World} {b o : Nat} {L : List Ou} (h : jX 4 w (some ⟨b, o, none⟩) (L.map Ou.R)) {j : Nat} {t : Ou} (ht : L[j]? = some t) (q : Int) : jX 4 (w.setCell ⟨b, o + j * 4 + 1, none⟩ (I q)) (some ⟨b, o, none⟩) ((L.set j ⟨t.k, q, t.y1, t.y2⟩).map Ou.R) := by
 have hj := (List.getElem?_eq_some_iff.1 ht).1
 obtain ⟨b', o', e, hb, hc⟩ := h.at_ (by simp; omega)
 injection e with e
 injection e with e1 e2 e3
 subst e1 e2
 refine ⟨by have := h.len; simpa using this, fun _ => ⟨b, o, rfl, Nat.lt_of_lt_of_le hb ((Below.refl 0 w).setCell (p := ⟨b, o + j * 4 + 1, none⟩) (Nat.zero_le _) (I q)).size, fun i s hs n v hv => ?_⟩⟩
 simp only [List.getElem?_map, Option.map_eq_some_iff] at hs
 obtain ⟨t', ht', rfl⟩ := hs
 have hn : n < 4 := by have := (List.getElem?_eq_some_iff.1 hv).1; simpa [Ou.R] using this
 rw [List.getElem?_set] at ht'
 by_cases hij : j = i
 · subst hij
   rw [if_pos rfl, if_pos hj] at ht'
   injection ht' with ht'
   subst ht'
   have ho := hc j t.R (by simp [ht])
   by_cases h1 : n = 1
   · subst h1
     have hv' : v = I q := by simpa [Ou.R] using hv.symm
     subst hv'
     exact World.cell?_setCell_same w _ _ (ho 1 (I t.y0) rfl)
   · rw [World.cell?_setCell_other w _ _ _ (by intro e; injection e with _ e _; omega)]
     refine ho n v ?_
     obtain rfl | rfl | rfl : n = 0 ∨ n = 2 ∨ n = 3 := by omega
     all_goals exact hv
 · rw [if_neg hij] at ht'
   rw [World.cell?_setCell_other w _ _ _ (by intro e; injection e with _ e _; omega)]
   exact hc i t'.R (by simp [ht']) n v hv
theorem wrap_add {y0 y : Int} (h0 : PQ.lC y0) (hy : -9223372036854775808 ≤ y ∧ y ≤ 9223372036854775807) : IntKind.i64.wrap (y0 + y) = y0 ↔ y = 0 := by
 have h1 := h0.1
 have h2 := h0.2
 have h3 := hy.1
 have h4 := hy.2
 constructor
 · intro h
   by_cases hr : -9223372036854775808 ≤ y0 + y ∧ y0 + y ≤ 9223372036854775807
   · rw [IntWalk.i64_in _ (by omega)] at h
     omega
   · exfalso
     simp [IntKind.wrap, IntKind.bits, IntKind.signed] at h
     omega
 · rintro rfl
   rw [Int.add_zero]
   exact IntWalk.i64_in _ (by omega)
theorem AO (c : Cf) (log : List Sm) (k y : Int) (A : Option Addr) (cp : Nat) (ws : World) (hr0 : log.length ≤ 15 → nR ws A log) (hk : -9223372036854775808 ≤ k ∧ k ≤ 9223372036854775807) (hy : -9223372036854775808 ≤ y ∧ y ≤ 9223372036854775807) (hc : log.length ≤ cp) (hm : cp ≤ 4611686018427387904) :
 Calls Try.prog 10 #[.agg #[I c.dt, I c.acc, I c.bias, I c.dJ, I c.dY, I c.gate, .slice A log.length cp, .int .i64 k, .int .i64 y]] ws fun x w' => x = .returned (.bool true) ∧ Below ws.heap.size ws w' := by
 have HR0 := Lib.hid hr0
 have HK := Lib.hid hk
 have HY := Lib.hid hy
 have HC := Lib.hid (And.intro hc hm)
 clear hr0 hk hy hc hm
 go_enter Try.func10, Try.ntmps10
 have N0 := Lib.hid (Row.new ws 81 #[I c.dt, I c.acc, I c.bias, I c.dJ, I c.dY, I c.gate, .slice A log.length cp, .int .i64 k, .int .i64 y])
 have B0 := Lib.hid ((Below.refl ws.heap.size ws).alloc (Nat.le_refl _) (.cells #[I c.dt, I c.acc, I c.bias, I c.dJ, I c.dY, I c.gate, .slice A log.length cp, .int .i64 k, .int .i64 y] 81))
 go_upto_region 1 with fail
 generalize ws.alloc (.cells #[I c.dt, I c.acc, I c.bias, I c.dJ, I c.dY, I c.gate, .slice A log.length cp, .int .i64 k, .int .i64 y] 81) = w0 at N0 B0 ⊢
 have hc : ∀ i, w0.cell? ⟨ws.heap.size, i, none⟩ = #[I c.dt, I c.acc, I c.bias, I c.dJ, I c.dY, I c.gate, .slice A log.length cp, .int .i64 k, .int .i64 y][i]? := N0.out.cell
 have hlt := N0.out.lt
 go_upto_region 5 with fail
 have NC := Lib.hid (Row.new w0 24 c.row)
 have B1 : Hid (Below ws.heap.size ws (w0.alloc (.cells c.row 24))) := Lib.hid (B0.out.alloc B0.out.size _)
 have hz : Hid (ws.heap.size ≤ w0.heap.size) := Lib.hid B0.out.size
 clear hc hlt N0 B0
 change Code.wp _ _ _ _ (w0.alloc (.cells c.row 24))
 generalize w0.alloc (.cells c.row 24) = w1 at NC B1 ⊢
 generalize w0.heap.size = z at NC hz ⊢
 go_wp2_with fail
 refine (iR _).mono ?_
 rintro x w2 ⟨rfl, hb⟩
 have RC := Lib.hid ((NC.out.below hb NC.out.lt : Row w2 z 24 c.row))
 have B2 : Hid (Below ws.heap.size ws w2) := Lib.hid (B1.out.trans (hb.mono B1.out.size))
 clear hb B1 NC
 have hcc : ∀ i, w2.cell? ⟨z, i, none⟩ = c.row[i]? := RC.out.cell
 go_wp2_with fail
 refine (uX c _).mono ?_
 rintro x w3 ⟨rfl, hb⟩
 have RU := Lib.hid ((RC.out.below hb RC.out.lt : Row w3 z 24 c.row))
 have B3 : Hid (Below ws.heap.size ws w3) := Lib.hid (B2.out.trans (hb.mono B2.out.size))
 clear hb B2 RC hcc
 cases hmay : c.may
 case false =>
  go_wp2
  exact bodyPost_ret (results_tmp rfl _ _ _) rfl ⟨rfl, B3.out⟩
 have D8 := Lib.hid hmay
 clear hmay
 by_cases h20 : log.length ≤ 15
 case neg =>
  have d0 : decide ((15 : Int) < (log.length : Int)) = true := decide_eq_true (by omega)
  go_wp2
  exact bodyPost_ret (results_tmp rfl _ _ _) rfl ⟨rfl, B3.out⟩
 have d0 : decide ((15 : Int) < (log.length : Int)) = false := decide_eq_false (by omega)
 have PW := Lib.hid h20
 clear h20
 have HL := Lib.hid (HR0.out PW.out)
 clear HR0
 obtain ⟨N, hN0, Q4, Q3, hNX⟩ := Ll c D8.out log
 have HX := Lib.hid hNX
 have FC : Hid (∀ w', Below ws.heap.size ws w' → Calls Try.prog 31 #[.agg c.row, .slice A log.length cp] w' fun x w2 => ∃ (e : Es) (v : Value), e.nu = N log.length ∧ x = .returned (.tuple #[.agg e.R, v]) ∧ w2.ownsRow w'.heap.size 42 3 v log.length (outs N log.length) ∧ Below w'.heap.size w' w2) := Lib.hid (fun w' h => oz c log A cp N w' D8.out Q4 Q3 hN0 (HL.out.below h))
 have GA : Hid (∀ (os : List Ou) (B : Option Addr) (cb : Nat) w', Below ws.heap.size ws w' → jX 4 w' B (os.map Ou.R) → Calls Try.prog 33 #[.agg c.row, .slice A log.length cp, .slice B os.length cb] w' fun x w2 => ∃ r : Bool, x = .returned (.bool r) ∧ (r = true ↔ ∀ o ∈ os, ¬ bad (kP N log.length) o) ∧ Below w'.heap.size w' w2) := Lib.hid (fun os B cb w' h ho => pz c log os A B cp cb N w' D8.out Q4 Q3 hN0 (HL.out.below h) ho)
 clear hNX
 clear hN0 Q4 Q3
 have hcc : ∀ i, w3.cell? ⟨z, i, none⟩ = c.row[i]? := RU.out.cell
 go_wp2_with fail
 refine (FC.out w3 B3.out).mono ?_
 rintro x w4 ⟨e, v, -, rfl, hv, hb⟩
 obtain ⟨G, cap, rfl, Ff, -, hG⟩ := vk hv (by have := PW.out; omega)
 rw [mD]
 have RG := Lib.hid hG
 have CG := Lib.hid Ff
 have RN := Lib.hid ((RU.out.below hb RU.out.lt : Row w4 z 24 c.row))
 have B4 : Hid (Below ws.heap.size ws w4) := Lib.hid (B3.out.trans (hb.mono B3.out.size))
 clear hb hv hG Ff B3 RU hcc FC d0
 have TN := Lib.hid (oU w4 #[.int .i64 0, .int .i64 0, .int .i64 0, .int .i64 0, .int .i64 0, .int .i64 0, .slice none 0 0, .int .i64 0, .int .i64 0, .slice none 0 0, .int .i64 0, .int .i64 0, .slice none 0 0, .int .i64 0, .int .i64 0, .slice none 0 0, .int .i64 0, .int .i64 0, .slice none 0 0, .int .i64 0, .int .i64 0, .slice none 0 0, .int .i64 0, .int .i64 0, .int .i64 0, .int .i64 0, .int .i64 0, .int .i64 0, .bool false] e.R 37 rfl)
 have TH : Hid ((w4.alloc (.cells #[.int .i64 0, .int .i64 0, .int .i64 0, .int .i64 0, .int .i64 0, .int .i64 0, .slice none 0 0, .int .i64 0, .int .i64 0, .slice none 0 0, .int .i64 0, .int .i64 0, .slice none 0 0, .int .i64 0, .int .i64 0, .slice none 0 0, .int .i64 0, .int .i64 0, .slice none 0 0, .int .i64 0, .int .i64 0, .slice none 0 0, .int .i64 0, .int .i64 0, .int .i64 0, .int .i64 0, .int .i64 0, .int .i64 0, .bool false] 37)).there w4.heap.size 0 e.R.size) := Lib.hid (by have h := Row.there (Row.new w4 37 #[.int .i64 0, .int .i64 0, .int .i64 0, .int .i64 0, .int .i64 0, .int .i64 0, .slice none 0 0, .int .i64 0, .int .i64 0, .slice none 0 0, .int .i64 0, .int .i64 0, .slice none 0 0, .int .i64 0, .int .i64 0, .slice none 0 0, .int .i64 0, .int .i64 0, .slice none 0 0, .int .i64 0, .int .i64 0, .slice none 0 0, .int .i64 0, .int .i64 0, .int .i64 0, .int .i64 0, .int .i64 0, .int .i64 0, .bool false]); exact h)
 have i37 : Hid ((Try.prog.info? 37).map (·.size) = some e.R.size) := Lib.hid (by kernel_rfl)
 have one : Hid (e.R.all (·.oneCell') = true) := Lib.hid (by kernel_rfl)
 go_upto_region 9 with (with_reducible refine wpList_store_mid rfl 37 (.tmp 8) (.tmp 34) rfl w4.heap.size 0 e.R rfl rfl TH.out i37.out one.out ?_)
 clear TH i37 one
 generalize (w4.alloc (.cells #[.int .i64 0, .int .i64 0, .int .i64 0, .int .i64 0, .int .i64 0, .int .i64 0, .slice none 0 0, .int .i64 0, .int .i64 0, .slice none 0 0, .int .i64 0, .int .i64 0, .slice none 0 0, .int .i64 0, .int .i64 0, .slice none 0 0, .int .i64 0, .int .i64 0, .slice none 0 0, .int .i64 0, .int .i64 0, .slice none 0 0, .int .i64 0, .int .i64 0, .int .i64 0, .int .i64 0, .int .i64 0, .int .i64 0, .bool false] 37)).setCells w4.heap.size 0 e.R.toList = w5 at TN ⊢
 have Py := Lib.hid ((RN.out.below TN.out.2 RN.out.lt : Row w5 z 24 c.row))
 have Y1 := Lib.hid (RG.out.below TN.out.2)
 have B5 : Hid (Below ws.heap.size ws w5) := Lib.hid (B4.out.trans (TN.out.2.mono B4.out.size))
 clear TN B4 RN RG
 generalize w4.heap.size = z8
 have CGx := CG
 go_wp2
 go_loopw [11, 10] (fun i v wr => ∃ j : Nat, j ≤ log.length ∧ i = .int .i64 j ∧ Hid (Below w5.heap.size w5 wr ∧ wr.ownsRow w5.heap.size 76 4 v j (jJ (oK N j)))) (fun i _ _ => log.length - (intOf i).toNat)
 case atStart => exact ⟨0, by omega, rfl, Below.refl _ _, World.ownsRow_nil _ _ _ _⟩
 case round =>
  obtain ⟨j, hj, rfl, F⟩ := hrel
  obtain rfl | hlt : j = log.length ∨ j < log.length := by omega
  case inr =>
   have fO := Lib.hid hlt
   obtain ⟨b, o, rfl, hb, hat⟩ := (Y1.out.below F.out.1).at_ (by simp [mD]; omega)
   have hP := hat j (Vc.R ⟨(N (j + 1)).x0.getD 0 0, (N (j + 1)).x1.getD 0 0, (N (j + 1)).x2.getD 0 0⟩) (by rw [List.getElem?_map, Dt N hlt]; rfl)
   have OO : Hid (oK N (j + 1) = _) := Lib.hid (KA N j)
   generalize (N (j + 1)).x0.getD 0 0 = y0 at hP OO
   generalize (N (j + 1)).x1.getD 0 0 = y1 at hP OO
   generalize (N (j + 1)).x2.getD 0 0 = y2 at hP OO
   have p0 : wr.cell? ⟨b, o + j * 3, none⟩ = some (I y0) := hP 0 _ rfl
   have p1 : wr.cell? ⟨b, o + j * 3 + 1, none⟩ = some (I y1) := hP 1 _ rfl
   have p2 : wr.cell? ⟨b, o + j * 3 + 2, none⟩ = some (I y2) := hP 2 _ rfl
   clear hat hb hP hlt hj
   have hd : decide ((j : Int) < (log.length : Int)) = true := decide_eq_true (by have := fO.out; omega)
   have hd2 : decide (j < log.length) = true := decide_eq_true fO.out
   have g0 : (0 : Int) ≤ (j : Int) := by omega
   have g2 : (j : Int) < (log.length : Int) := by have := fO.out; omega
   have hw : IntKind.i64.wrap ((j : Int) + 1) = ((j + 1 : Nat) : Int) := by rw [IntWalk.i64_in _ (by have := PW.out; have := fO.out; omega)]; omega
   obtain ⟨i0, hi, hz0, hz1, hz2⟩ := info_parts (show (Try.prog.info? 76).map (fun i => (i.zero, i.size, i.bytes)) = some (some (.agg #[.int .i64 0, .int .i64 0, .int .i64 0, .int .i64 0]), 4, 32) by kernel_rfl)
   have HI := Lib.hid (And.intro hi (And.intro hz0 (And.intro hz1 hz2)))
   clear hi hz0 hz1 hz2
   have HCC : Hid (∀ i u, (Ou.R ⟨(j : Int) + 1, y0, y1, y2⟩).toList[i]? = some u → (wr.alloc (.cells #[I ((j : Int) + 1), I y0, I y1, I y2] 76)).cell? ((⟨wr.heap.size, 0, none⟩ : Addr).add i) = some u) := Lib.hid (fun i u hu => I9 (Row.new wr 76 #[I ((j : Int) + 1), I y0, I y1, I y2]) i u hu)
   have H1 : Hid (∀ u ∈ (Ou.R ⟨(j : Int) + 1, y0, y1, y2⟩).toList, u.oneCell' = true) := Lib.hid (by simp [Ou.R, Value.oneCell'])
   have H2 : Hid (j + 1 ≤ maxLen) := Lib.hid (by simp only [maxLen]; have := PW.out; have := fO.out; omega)
   have H3 : Hid ((j + 1) * 32 ≤ 140737488355328) := Lib.hid (by have := PW.out; have := fO.out; omega)
   have H4 : Hid (w5.heap.size ≤ (wr.alloc (.cells #[I ((j : Int) + 1), I y0, I y1, I y2] 76)).heap.size) := Lib.hid (by have := F.out.1.size; simp; omega)
   go_wp2_with (with_reducible refine wpList_append_own _ rfl (.tmp 42) (.tmp 50) 64 rfl w5.heap.size 76 i0 (.agg #[.int .i64 0, .int .i64 0, .int .i64 0, .int .i64 0]) 4 32 Try.underlying64 HI.out.1 HI.out.2.1 HI.out.2.2.1 HI.out.2.2.2 rfl (by decide) u10 _ _ rfl (F.out.2.alloc _) ⟨wr.heap.size, 0, none⟩ 1 1 (Ou.R ⟨(j : Int) + 1, y0, y1, y2⟩).toList rfl rfl HCC.out H1.out H2.out H3.out H4.out ?_)
   intro v' w6 hown hgrow _
   have OW : Hid (w6.ownsRow w5.heap.size 76 4 v' (j + 1) (jJ (oK N (j + 1)))) := Lib.hid (by
    rw [OO.out, wR]
    simpa [jJ] using hown)
   have B6 : Hid (Below w5.heap.size w5 w6) := Lib.hid ((F.out.1.alloc F.out.1.size _).grown hgrow H4.out (fun q eq => (F.out.2.lt q eq).1))
   clear hown hgrow HCC H1 H2 H3 H4 F p0 p1 p2 hd hd2
   go_wp2
   go_roundw
   case rel => exact ⟨j + 1, fO.out, by first | rfl | (simp [hw]) | (rw [hw]), Lib.hid ⟨B6.out, OW.out⟩⟩
   case measure =>
    have := fO.out
    simp [intOf, hw]
    omega
  case inl =>
   have hO : wr.ownsRow w5.heap.size 76 4 u10 (oK N log.length).length (jJ (oK N log.length)) := by rw [kN]; exact F.out.2
   obtain ⟨H, zA, rfl, Ob, -, hH⟩ := yS hO (by rw [kN]; have := PW.out; omega)
   rw [kN] at Ob
   have fO := Lib.hid (show ∀ g o, H = some ⟨g, o, none⟩ → w5.heap.size ≤ g ∧ ∃ cur, wr.heap[g]? = some (.cells cur 76) from fun g o e => by
    subst e
    have h1 := hO.lt g (by simp [Value.ownBlock])
    rcases hO.2 with ⟨h2, _⟩ | ⟨g', cap', cur', h2, _, h3, _⟩
    · cases h2
    · injection h2 with h2 _ _
      injection h2 with h2
      injection h2 with h2 _ _
      subst h2
      exact ⟨h1.1, cur', h3⟩)
   have RH := Lib.hid hH
   have CH := Lib.hid Ob
   have BR : Hid (Below ws.heap.size ws wr) := Lib.hid (B5.out.trans (F.out.1.mono B5.out.size))
   have RCr := Lib.hid ((Py.out.below F.out.1 Py.out.lt : Row wr z 24 c.row))
   have F5 : Hid (Below w5.heap.size w5 wr) := Lib.hid F.out.1
   clear hO hH Ob F Y1 hj
   rw [kN]
   have C1 : Hid (∀ w', Below ws.heap.size ws w' → jX 4 w' H ((oK N log.length).map Ou.R) → Calls Try.prog 33 #[.agg c.row, .slice A log.length cp, .slice H log.length zA] w' fun x w2 => x = .returned (.bool true) ∧ Below w'.heap.size w' w2) := Lib.hid (fun w' h ho => by
    have HH := GA.out (oK N log.length) H zA w' h ho
    rw [kN] at HH
    refine HH.mono ?_
    rintro x w2 ⟨r, rfl, hr, hb⟩
    exact ⟨by rw [hr.2 (Be N log.length)], hb⟩)
   have C2 : Hid (∀ w' b, (k < 1 ∨ (log.length : Int) < k) → Below ws.heap.size ws w' → Row w' b 76 #[I k, I 0, I 0, I 0] → Calls Try.prog 33 #[.agg c.row, .slice A log.length cp, .slice (some ⟨b, 0, none⟩) 1 1] w' fun x w2 => x = .returned (.bool false) ∧ Below w'.heap.size w' w2) := Lib.hid (fun w' b hk h ho => by
    refine (GA.out [⟨k, 0, 0, 0⟩] (some ⟨b, 0, none⟩) 1 w' h (jX.one ho)).mono ?_
    rintro x w2 ⟨r, rfl, hr, hb⟩
    refine ⟨?_, hb⟩
    cases r
    · rfl
    · exact absurd (out_bad N log.length k 0 0 0 hk) (hr.1 rfl _ (by simp)))
   have hcc : ∀ i, wr.cell? ⟨z, i, none⟩ = c.row[i]? := RCr.out.cell
   go_wp2_with fail
   refine (C1.out _ BR.out RH.out).mono ?_
   rintro x w6 ⟨rfl, hb⟩
   have Xh := Lib.hid ((RCr.out.below hb RCr.out.lt : Row w6 z 24 c.row))
   have RH6 := Lib.hid (RH.out.below hb)
   have B6 : Hid (Below ws.heap.size ws w6) := Lib.hid (BR.out.trans (hb.mono BR.out.size))
   have F6 : Hid (Below w5.heap.size w5 w6) := Lib.hid (F5.out.trans (hb.mono F5.out.size))
   have HG6 := Lib.hid (show ∀ g o, H = some ⟨g, o, none⟩ → w5.heap.size ≤ g ∧ ∃ cur, w6.heap[g]? = some (.cells cur 76) from fun g o e => by
    obtain ⟨h1, cur, h2⟩ := fO.out g o e
    exact ⟨h1, cur, (hb.block g (Array.getElem?_eq_some_iff.1 h2).1).trans h2⟩)
   clear hb RCr RH BR hcc C1 F5 fO
   have dl : ((log.length : Int) != (log.length : Int)) = false := by simp
   have hcc : ∀ i, w6.cell? ⟨z, i, none⟩ = c.row[i]? := Xh.out.cell
   have hlt := Xh.out.lt
   by_cases h1 : k < 1
   case pos =>
    have d1 : decide (k < 1) = true := decide_eq_true h1
    go_wp2_with fail
    refine (C2.out _ _ (.inl h1) (B6.out.alloc B6.out.size _) (Row.new _ _ _)).mono ?_
    rintro x w7 ⟨rfl, hb⟩
    have B7 : Hid (Below ws.heap.size ws w7) := Lib.hid ((B6.out.alloc B6.out.size _).trans (hb.mono (Nat.le_trans B6.out.size (by simp))))
    clear hb
    go_wp2
    exact bodyPost_ret (results_tmp rfl _ _ _) rfl ⟨rfl, B7.out⟩
   have d1 : decide (k < 1) = false := decide_eq_false h1
   by_cases h2 : (log.length : Int) < k
   case pos =>
    have d2 : decide ((log.length : Int) < k) = true := decide_eq_true h2
    go_wp2_with fail
    refine (C2.out _ _ (.inr h2) (B6.out.alloc B6.out.size _) (Row.new _ _ _)).mono ?_
    rintro x w7 ⟨rfl, hb⟩
    have B7 : Hid (Below ws.heap.size ws w7) := Lib.hid ((B6.out.alloc B6.out.size _).trans (hb.mono (Nat.le_trans B6.out.size (by simp))))
    clear hb
    go_wp2
    exact bodyPost_ret (results_tmp rfl _ _ _) rfl ⟨rfl, B7.out⟩
   have d2 : decide ((log.length : Int) < k) = false := decide_eq_false h2
   obtain ⟨j, hkj⟩ : ∃ j : Nat, k = (j : Int) + 1 := ⟨(k - 1).toNat, by omega⟩
   have HKJ := Lib.hid hkj
   have HJ := Lib.hid (show j < log.length by omega)
   clear h1 h2 hkj C2 hcc
   have WE : Hid (j < log.length) := HJ
   clear HJ
   obtain ⟨g, o, rfl, _, hat⟩ := RH6.out.at_ (by simp [kN]; have := WE.out; omega)
   have HGG := Lib.hid (HG6.out g o rfl)
   have hP := hat j _ (by rw [List.getElem?_map, Dq N WE.out]; rfl)
   have p1 : w6.cell? ⟨g, o + j * 4 + 1, none⟩ = some (I ((N (j + 1)).x0.getD 0 0)) := hP 1 _ rfl
   have HXX : Hid (∀ j, j < log.length → PQ.lC ((N (j + 1)).x0.getD 0 0)) := Lib.hid (fun j hj => by
    have h := HX.out j hj 0 (by decide)
    have hx : (N (j + 1)).x 0 = (N (j + 1)).x0 := rfl
    rw [hx] at h
    cases hc : (N (j + 1)).x0 with
    | nil => exact ⟨by decide, by decide⟩
    | cons a r => rw [hc] at h; exact h a (by simp))
   have hfz : ∀ a, w6.frozen? ⟨g, a, none⟩ = false := fun a => by
    obtain ⟨_, cur, acG⟩ := HGG.out
    simp [World.frozen?, acG]
   have hw1 : IntKind.i64.wrap (k - 1) = (j : Int) := by rw [IntWalk.i64_in _ (by have := HK.out; have := HKJ.out; omega)]; have := HKJ.out; omega
   obtain ⟨y0, hy0⟩ : ∃ y0, (N (j + 1)).x0.getD 0 0 = y0 := ⟨_, rfl⟩
   have HY0 := Lib.hid hy0
   rw [hy0] at p1
   clear hat hP hy0 HX
   go_upto_region 18 with fail
   refine OG.fF (by kernel_rfl) (fun l a w => a = { tmps := List.toArray (Value.agg #[I c.dt, I c.acc, I c.bias, I c.dJ, I c.dY, I c.gate, Value.slice A log.length cp, I k, I y] :: Value.pointer (some ⟨ws.heap.size, 0, none⟩) :: Value.bool false :: Value.pointer (some ⟨z, 0, none⟩) :: Value.slice A log.length cp :: I k :: I y :: Value.bool true :: Value.pointer (some ⟨z8, 0, none⟩) :: Value.slice G log.length cap :: Value.slice (some ⟨g, o, none⟩) log.length zA :: I log.length :: Value.pointer (some ⟨ws.heap.size, 0, none⟩) :: Value.agg #[I c.dt, I c.acc, I c.bias, I c.dJ, I c.dY, I c.gate] :: Value.pointer (some ⟨ws.heap.size, 6, none⟩) :: Value.slice A log.length cp :: Value.pointer (some ⟨ws.heap.size, 7, none⟩) :: I k :: Value.pointer (some ⟨ws.heap.size, 8, none⟩) :: I y :: Value.bool true :: Value.agg #[I c.dt, I c.acc, I c.bias, I c.dJ, I c.dY, I c.gate] :: Value.bool true :: Value.bool false :: Value.bool false :: Value.slice A log.length cp :: I log.length :: Value.bool false :: Value.bool false :: undef :: Value.tuple #[Value.agg e.R, Value.slice G log.length cap] :: Value.agg #[I c.dt, I c.acc, I c.bias, I c.dJ, I c.dY, I c.gate] :: Value.slice A log.length cp :: Value.tuple #[Value.agg e.R, Value.slice G log.length cap] :: Value.agg e.R :: Value.slice G log.length cap :: I log.length :: Value.slice G log.length cap :: I log.length :: Value.bool false :: u40 :: u41 :: u42 :: u43 :: u44 :: u45 :: u46 :: u47 :: u48 :: u49 :: u50 :: u51 :: Value.agg #[I c.dt, I c.acc, I c.bias, I c.dJ, I c.dY, I c.gate] :: Value.slice A log.length cp :: Value.slice (some ⟨g, o, none⟩) log.length zA :: Value.bool true :: Value.bool false :: Value.bool false :: Value.slice G log.length cap :: I log.length :: Value.slice A log.length cp :: I log.length :: Value.bool false :: Value.bool false :: I k :: Value.bool false :: Value.bool false :: I k :: Value.slice G log.length cap :: I log.length :: Value.bool false :: Value.bool false :: undef :: undef :: undef :: undef :: undef :: undef :: undef :: undef :: undef :: undef :: (bif l 0 then Value.slice (some ⟨g, o, none⟩) log.length zA else undef) :: (bif l 1 then Value.int .i64 k else undef) :: (bif l 2 then Value.int .i64 (j : Int) else undef) :: (bif l 3 then Value.slice (some ⟨g, o, none⟩) log.length zA else undef) :: (bif l 4 then Value.int .i64 k else undef) :: (bif l 5 then Value.int .i64 (j : Int) else undef) :: (bif l 6 then Value.pointer (some ⟨g, o + j * 4, none⟩) else undef) :: (bif l 7 then Value.pointer (some ⟨g, o + j * 4 + 1, none⟩) else undef) :: (bif l 8 then Value.pointer (some ⟨g, o + j * 4 + 1, none⟩) else undef) :: (bif l 9 then I y0 else undef) :: (bif l 10 then Value.int .i64 y else undef) :: (bif l 11 then Value.int .i64 (IntKind.i64.wrap (y0 + y)) else undef) :: (bif l 12 then Value.pointer (some ⟨g, o + j * 4, none⟩) else undef) :: (bif l 13 then Value.pointer (some ⟨g, o + j * 4 + 1, none⟩) else undef) :: (bif l 14 then Value.pointer (some ⟨g, o + j * 4 + 1, none⟩) else undef) :: undef :: undef :: undef :: undef :: undef :: undef :: undef :: undef :: undef :: undef :: []), defers := [] } ∧ (l 15 = false → w = w6.drew) ∧ (l 15 = true → w = w6.drew.setCell ⟨g, o + j * 4 + 1, none⟩ (Value.int .i64 (IntKind.i64.wrap (y0 + y))))) (by kernel_rfl) ?s0 ?ss ?se
   case s0 => exact ⟨rfl, fun _ => rfl, fun h => (by cases h)⟩
   case ss =>
    refine OG.Steps.cons rfl (fun l a w K hK hJ hcl h0 hd => ?_) (OG.Steps.cons rfl (fun l a w K hK hJ hcl h0 hd => ?_) (OG.Steps.cons rfl (fun l a w K hK hJ hcl h0 hd => ?_) (OG.Steps.cons rfl (fun l a w K hK hJ hcl h0 hd => ?_) (OG.Steps.cons rfl (fun l a w K hK hJ hcl h0 hd => ?_) (OG.Steps.cons rfl (fun l a w K hK hJ hcl h0 hd => ?_) (OG.Steps.cons rfl (fun l a w K hK hJ hcl h0 hd => ?_) (OG.Steps.cons rfl (fun l a w K hK hJ hcl h0 hd => ?_) (OG.Steps.cons rfl (fun l a w K hK hJ hcl h0 hd => ?_) (OG.Steps.cons rfl (fun l a w K hK hJ hcl h0 hd => ?_) (OG.Steps.cons rfl (fun l a w K hK hJ hcl h0 hd => ?_) (OG.Steps.cons rfl (fun l a w K hK hJ hcl h0 hd => ?_) (OG.Steps.cons rfl (fun l a w K hK hJ hcl h0 hd => ?_) (OG.Steps.cons rfl (fun l a w K hK hJ hcl h0 hd => ?_) (OG.Steps.cons rfl (fun l a w K hK hJ hcl h0 hd => ?_) (OG.Steps.cons rfl (fun l a w K hK hJ hcl h0 hd => ?_) OG.Steps.nil)))))))))))))))
    · obtain ⟨rfl, hP0, hP1⟩ := hJ
      have HJ := Lib.hid (And.intro hP0 (hP1))
      clear hP0 hP1 hd hcl h0
      go_simp
      exact hK.out _ _ ⟨(rfl), (HJ.out.1), (HJ.out.2)⟩
    · obtain ⟨rfl, hP0, hP1⟩ := hJ
      have HJ := Lib.hid (And.intro hP0 (hP1))
      clear hP0 hP1 hd hcl h0
      go_simp
      exact hK.out _ _ ⟨(rfl), (HJ.out.1), (HJ.out.2)⟩
    · obtain ⟨rfl, hP0, hP1⟩ := hJ
      have d1 := hd.get 1 (by rfl)
      have HJ := Lib.hid (And.intro hP0 (hP1))
      clear hP0 hP1 hd hcl h0
      go_simp
      exact hK.out _ _ ⟨(by simp only [OG.upd, d1]; rfl), (HJ.out.1), (HJ.out.2)⟩
    · obtain ⟨rfl, hP0, hP1⟩ := hJ
      have HJ := Lib.hid (And.intro hP0 (hP1))
      clear hP0 hP1 hd hcl h0
      go_simp
      exact hK.out _ _ ⟨(rfl), (HJ.out.1), (HJ.out.2)⟩
    · obtain ⟨rfl, hP0, hP1⟩ := hJ
      have HJ := Lib.hid (And.intro hP0 (hP1))
      clear hP0 hP1 hd hcl h0
      go_simp
      exact hK.out _ _ ⟨(rfl), (HJ.out.1), (HJ.out.2)⟩
    · obtain ⟨rfl, hP0, hP1⟩ := hJ
      have d4 := hd.get 4 (by rfl)
      have HJ := Lib.hid (And.intro hP0 (hP1))
      clear hP0 hP1 hd hcl h0
      go_simp
      exact hK.out _ _ ⟨(by simp only [OG.upd, d4]; rfl), (HJ.out.1), (HJ.out.2)⟩
    · obtain ⟨rfl, hP0, hP1⟩ := hJ
      have d3 := hd.get 3 (by rfl)
      have d5 := hd.get 5 (by rfl)
      have HJ := Lib.hid (And.intro hP0 (hP1))
      clear hP0 hP1 hd hcl h0
      have g0 : (0 : Int) ≤ (j : Int) := by omega
      have g1 : (j : Int) < (log.length : Int) := by have := WE.out; omega
      go_simp
      exact hK.out _ _ ⟨(by simp only [OG.upd, d3, d5]; rfl), (HJ.out.1), (HJ.out.2)⟩
    · obtain ⟨rfl, hP0, hP1⟩ := hJ
      have d6 := hd.get 6 (by rfl)
      have HJ := Lib.hid (And.intro hP0 (hP1))
      clear hP0 hP1 hd hcl h0
      go_simp
      exact hK.out _ _ ⟨(by simp only [OG.upd, d6]; rfl), (HJ.out.1), (HJ.out.2)⟩
    · obtain ⟨rfl, hP0, hP1⟩ := hJ
      have d7 := hd.get 7 (by rfl)
      have HJ := Lib.hid (And.intro hP0 (hP1))
      clear hP0 hP1 hd hcl h0
      go_simp
      exact hK.out _ _ ⟨(by simp only [OG.upd, d7]; rfl), (HJ.out.1), (HJ.out.2)⟩
    · obtain ⟨rfl, hP0, hP1⟩ := hJ
      have d8 := hd.get 8 (by rfl)
      have f11 := hcl.off 11 9 (by rfl) h0
      have f15 := hcl.off 15 11 (by rfl) f11
      have HJ := Lib.hid (And.intro hP0 (hP1))
      clear hP0 hP1 hd hcl h0
      have hw := HJ.out.1 f15
      subst hw
      go_simp
      exact hK.out _ _ ⟨(by simp only [OG.upd, d8, f11, f15]; rfl), (fun _ => rfl), (fun h => Bool.noConfusion (f15.symm.trans h))⟩
    · obtain ⟨rfl, hP0, hP1⟩ := hJ
      have HJ := Lib.hid (And.intro hP0 (hP1))
      clear hP0 hP1 hd hcl h0
      go_simp
      exact hK.out _ _ ⟨(rfl), (HJ.out.1), (HJ.out.2)⟩
    · obtain ⟨rfl, hP0, hP1⟩ := hJ
      have d9 := hd.get 9 (by rfl)
      have d10 := hd.get 10 (by rfl)
      have HJ := Lib.hid (And.intro hP0 (hP1))
      clear hP0 hP1 hd hcl h0
      go_simp
      exact hK.out _ _ ⟨(by simp only [OG.upd, d9, d10]; rfl), (HJ.out.1), (HJ.out.2)⟩
    · obtain ⟨rfl, hP0, hP1⟩ := hJ
      have d0 := hd.get 0 (by rfl)
      have d2 := hd.get 2 (by rfl)
      have HJ := Lib.hid (And.intro hP0 (hP1))
      clear hP0 hP1 hd hcl h0
      have g0 : (0 : Int) ≤ (j : Int) := by omega
      have g1 : (j : Int) < (log.length : Int) := by have := WE.out; omega
      go_simp
      exact hK.out _ _ ⟨(by simp only [OG.upd, d0, d2]; rfl), (HJ.out.1), (HJ.out.2)⟩
    · obtain ⟨rfl, hP0, hP1⟩ := hJ
      have d12 := hd.get 12 (by rfl)
      have HJ := Lib.hid (And.intro hP0 (hP1))
      clear hP0 hP1 hd hcl h0
      go_simp
      exact hK.out _ _ ⟨(by simp only [OG.upd, d12]; rfl), (HJ.out.1), (HJ.out.2)⟩
    · obtain ⟨rfl, hP0, hP1⟩ := hJ
      have d13 := hd.get 13 (by rfl)
      have HJ := Lib.hid (And.intro hP0 (hP1))
      clear hP0 hP1 hd hcl h0
      go_simp
      exact hK.out _ _ ⟨(by simp only [OG.upd, d13]; rfl), (HJ.out.1), (HJ.out.2)⟩
    · obtain ⟨rfl, hP0, hP1⟩ := hJ
      have d11 := hd.get 11 (by rfl)
      have d14 := hd.get 14 (by rfl)
      have HJ := Lib.hid (And.intro hP0 (hP1))
      clear hP0 hP1 hd hcl
      have hw := HJ.out.1 h0
      subst hw
      clear h0
      go_simp
      exact hK.out _ _ ⟨(by simp only [OG.upd, d11, d14]; rfl), (fun h => by simp [OG.upd] at h), (fun _ => rfl)⟩
   case se =>
    intro l a w hJ he
    obtain ⟨rfl, hP0, hP1⟩ := hJ
    rw [he 0 (by decide), he 1 (by decide), he 2 (by decide), he 3 (by decide), he 4 (by decide), he 5 (by decide), he 6 (by decide), he 7 (by decide), he 8 (by decide), he 9 (by decide), he 10 (by decide), he 11 (by decide), he 12 (by decide), he 13 (by decide), he 14 (by decide)]
    have hyy := HY0.out
    clear HY0
    subst hyy
    have hw := hP1 (he 15 (by decide))
    clear hP0 hP1 he
    have hr := jX.set1 (w := w6.drew) (RH6.out.below (Below.refl _ _).drew) (Dq N WE.out) (IntKind.i64.wrap ((N (j + 1)).x0.getD 0 0 + y))
    have B7 : Hid (Below w5.heap.size w5 w) := Lib.hid (by rw [hw]; exact F6.out.drew.setCell (p := ⟨g, o + j * 4 + 1, none⟩) HGG.out.1 _)
    have RO : Hid (jX 4 w (some ⟨g, o, none⟩) (((oK N log.length).set j ⟨(j : Int) + 1, IntKind.i64.wrap ((N (j + 1)).x0.getD 0 0 + y), (N (j + 1)).x1.getD 0 0, (N (j + 1)).x2.getD 0 0⟩).map Ou.R)) := Lib.hid (by rw [hw]; exact hr)
    have B8 : Hid (Below ws.heap.size ws w) := Lib.hid (B5.out.trans (B7.out.mono B5.out.size))
    have Y2 := Lib.hid ((Py.out.below B7.out Py.out.lt : Row w z 24 c.row))
    have C3 : Hid (Calls Try.prog 33 #[.agg c.row, .slice A log.length cp, .slice (some ⟨g, o, none⟩) log.length zA] w fun x w2 => x = .returned (.bool (y == 0)) ∧ Below w.heap.size w w2) := Lib.hid (by
     have HH := GA.out ((oK N log.length).set j ⟨(j : Int) + 1, IntKind.i64.wrap ((N (j + 1)).x0.getD 0 0 + y), (N (j + 1)).x1.getD 0 0, (N (j + 1)).x2.getD 0 0⟩) (some ⟨g, o, none⟩) zA w B8.out RO.out
     rw [List.length_set, kN] at HH
     refine HH.mono ?_
     rintro x w2 ⟨r, rfl, hr, hb⟩
     refine ⟨?_, hb⟩
     have h2 := hr.trans (Qh N log.length j WE.out _)
     have h3 := h2.trans (wrap_add (HXX.out j WE.out) HY.out)
     have : r = (y == 0) := by rw [Bool.eq_iff_iff, h3, beq_iff_eq]
     rw [this])
    clear hr hw RO B7 Py F6 HGG HG6 RH6
    simp only [cond_true]
    have hcc : ∀ i, w.cell? ⟨z, i, none⟩ = c.row[i]? := Y2.out.cell
    cases hy0 : (y == 0)
    all_goals
     rw [hy0] at C3
     go_wp2_with fail
     refine C3.out.mono ?_
     rintro x w9 ⟨rfl, hb⟩
     have B9 : Hid (Below ws.heap.size ws w9) := Lib.hid (B8.out.trans (hb.mono B8.out.size))
     clear hb C3
     go_wp2
     exact bodyPost_ret (results_tmp rfl _ _ _) rfl ⟨rfl, B9.out⟩
end Go.Proofs.Ytnijhjbcjeohhaa.BB

