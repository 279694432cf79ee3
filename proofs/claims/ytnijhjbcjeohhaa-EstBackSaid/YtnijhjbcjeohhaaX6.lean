import Derived.Test.YtnijhjbcjeohhaaX5
/- Joined and thinned by a program of this session's own (wip/pack2.py) out of its texts (wip/ of its repo); parts were laid by its own program (wip/print-patch.py over the kit's print) out of the translation; Lean checks all. -/
set_option maxRecDepth 100000
set_option maxHeartbeats 8000000
namespace Go.Proofs.Ytnijhjbcjeohhaa.PR
open Go.RowKit Go.Proofs.Ytnijhjbcjeohhaa.PQ Go.Proofs.af.aF Go.Proofs.af.aP Go.Proofs.af.aQ
attribute [local go_sem] fU fP iJ iI eG eF fQ fO
set_option linter.unusedVariables false
set_option linter.unusedSimpArgs false
def aZ.l0 : Nat → Int → Int → Int → Int → List Int → Option (Int × Int × List Int)
 | 0, _, _, _, _, _ => none
 | k + 1, x14, x15, Dl, pq, uK => if x15 < x14 then (if 0 ≤ (wrap64 ((wrap64 (x15 * pq)) + x15)) then (if (wrap64 ((wrap64 (x15 * pq)) + x15)) < (uK.length : Int) then (aZ.l0 k x14 (wrap64 (x15 + 1)) Dl pq (uK.set ((wrap64 ((wrap64 (x15 * pq)) + x15)) : Int).toNat (mx (rd uK (wrap64 ((wrap64 (x15 * pq)) + x15))) 0))) else (none)) else (none)) else (some (Dl, pq, uK))
def aZ.f (k : Nat) (bP : Int) (bZ : Int) (bF : List Int) : Option (Int × Int × List Int) := (lS.f bP bZ bF).bind fun rH => (aZ.l0 k rH.1 0 rH.1 rH.2.1 rH.2.2.1)
def aZ.T5 : Bool × List (List Nat × List Nat) := (true, [([], []), ([0], [0]), ([], []), ([], []), ([3], [3]), ([2, 4], [2, 4]), ([], []), ([5, 6], [5, 6]), ([], []), ([8], [8]), ([], []), ([], []), ([11], [11]), ([10, 12], [10, 12]), ([], []), ([13, 14], [13, 14]), ([9, 15], [9, 15]), ([16], [16]), ([17], [17]), ([1, 7, 0, 1, 2, 3, 4, 5, 6, 7, 8, 9, 10, 11, 12, 13, 14, 15, 16, 17, 18], [1, 7]), ([19, 18, 0, 1, 2, 3, 4, 5, 6, 7, 8, 9, 10, 11, 12, 13, 14, 15, 16, 17, 18], [18, 19])])
def aZ.B5 : List Nat := [0, 1, 0, 0, 8, 28, 0, 124, 0, 256, 0, 0, 2048, 7168, 0, 31744, 65280, 130816, 261888, 524287, 1048575]
theorem aZ.Ws : lN .any (opsOf Try.f104 5) = aZ.T5 := by kernel_rfl
theorem aZ.Q3 : nN aZ.T5.2 aZ.B5 = true := by kernel_rfl
theorem aZ.calls (k : Nat) (bP : Int) (bZ : Int) (dN : Option Addr) (dM : Nat) (bF : List Int) (r1 : Int) (r2 : Int) (r3 : List Int) (w : World) (kN : Kd.C (Kd.int .i64) w dN bF.length bF) (lZ : bF.length ≤ dM) (h : aZ.f k bP bZ bF = some (r1, r2, r3)) :
 Calls Try.prog 104 #[.agg #[.int .i64 bP, .int .i64 bZ, .slice dN bF.length dM]] w fun e w' => ∃ yS : Value, e = .returned (.agg #[.int .i64 r1, .int .i64 r2, yS]) ∧ Kd.R (Kd.int .i64) 22 w' w.heap.size (fun _ => True) yS r3 ∧ Below w.heap.size w w' := by
 have G_ := Try.underlying31
 have wK := aj.mk kN
 have wM := aj.mk lZ
 clear kN lZ
 have HB := aj.mk (Below.refl w.heap.size w)
 have H : ((lS.f bP bZ bF).bind fun rH => (aZ.l0 k rH.1 0 rH.1 rH.2.1 rH.2.2.1)) = some (r1, r2, r3) := h
 clear h
 replace H := Option.bind_eq_some_iff.mp H
 obtain ⟨⟨t139, t140, t141, t144, t145⟩, A20, H⟩ := H
 replace H : (aZ.l0 k t139 0 t139 t140 t141) = some (r1, r2, r3) := H
 have A2 := aj.mk A20
 clear A20
 have H' := aj.mk H
 clear H
 go_enter Try.func104, Try.ntmps104
 go_wp2_with (first | ((with_reducible refine dQ (N := 1) rfl ?_); refine dJ ?hg (N := 1) ?hd (cs := #[.int .i64 bP, .int .i64 bZ, .slice dN bF.length dM]) (t := 31) ?hr ?_; (case hd => rfl); (case hg => rfl); (case hr => first | (go_simp; done) | (go_simp; rfl)); intro kQ hg w3 hbox hb; have bu := aj.mk (aO (by repeat (first | (with_reducible first | exact HB.out | apply ak | apply ah | apply au) | exact HB.out)) hb); have fE := aj.mk (hbox); have fD := aj.mk ((by rw [hg]; exact (bC (by repeat (first | (with_reducible first | exact HB.out | apply ak | apply ah | apply au) | exact HB.out))) : w.heap.size ≤ kQ)); have iq := aj.mk ((by rw [hg]; exact (bC (by repeat (first | (with_reducible first | exact HB.out | apply ak | apply ah | apply au) | exact HB.out))) : w.heap.size ≤ kQ)); clear HB; have HB := bu; have gY := fE; have abj := fD; have o_ := iq; clear bu fE fD iq; clear hb hbox hg) | ((with_reducible refine dQ (N := 2) rfl ?_); refine dJ ?hg (N := 2) ?hd (cs := #[.int .i64 0, .int .i64 0, .slice none 0 0]) (t := 31) ?hr ?_; (case hd => rfl); (case hg => rfl); (case hr => first | (go_simp; done) | (go_simp; rfl)); intro kC hg w4 hbox hb; have bu := aj.mk (bG (g := kQ) (o := .cells #[.int .i64 bP, .int .i64 bZ, .slice dN bF.length dM] 31 (0, 0)) (by (with_reducible repeat (first | refine aB ?_ _ | refine aH ?_ | refine aC ?_ _)); exact gY.out) hb); have fE := aj.mk (aO (by repeat (first | (with_reducible first | exact HB.out | apply ak | apply ah | apply au | refine aG ?_ o_.out) | exact HB.out)) hb); have fD := aj.mk (hbox); have iq := aj.mk ((by rw [hg]; exact (bC (by repeat (first | (with_reducible first | exact HB.out | apply ak | apply ah | apply au | refine aG ?_ o_.out) | exact HB.out))) : w.heap.size ≤ kC)); have jP := aj.mk ((by rw [hg]; exact (bC (by repeat (first | (with_reducible first | exact HB.out | apply ak | apply ah | apply au | refine aG ?_ o_.out) | exact HB.out))) : w.heap.size ≤ kC)); have ku := aj.mk ((by rw [hg]; exact Nat.ne_of_lt (dU (g := kQ) (o := .cells #[.int .i64 bP, .int .i64 bZ, .slice dN bF.length dM] 31 (0, 0)) (by (with_reducible repeat (first | refine aB ?_ _ | refine aH ?_ | refine aC ?_ _)); exact gY.out)) : kQ ≠ kC)); have kM := aj.mk ((by rw [hg]; exact Nat.ne_of_gt (dU (g := kQ) (o := .cells #[.int .i64 bP, .int .i64 bZ, .slice dN bF.length dM] 31 (0, 0)) (by (with_reducible repeat (first | refine aB ?_ _ | refine aH ?_ | refine aC ?_ _)); exact gY.out)) : kC ≠ kQ)); clear gY; clear HB; have gY := bu; have HB := fE; have iM := fD; have abh := iq; have uw := jP; have xQ := ku; have xP := kM; clear bu fE fD iq jP ku kM; clear hb hbox hg; have ab7 := xQ.out; have ab3 := xP.out; have Hw : w4.cell? ⟨kQ, 0, none⟩ = some (.int .i64 bP) := (aA gY.out 0).trans rfl; have Hu : w4.cell? ⟨kQ, 1, none⟩ = some (.int .i64 bZ) := (aA gY.out 1).trans rfl; have NC : w4.cell? ⟨kQ, 2, none⟩ = some (.slice dN bF.length dM) := (aA gY.out 2).trans rfl; have Hq := aS gY.out 0; have Ho := aS gY.out 1; have Ns := aS gY.out 2) | ((with_reducible refine az (f := 116) rfl ?_); refine aT (some 9) rfl rfl Try.func116 (by kernel_rfl) rfl #[.agg #[.int .i64 bP, .int .i64 bZ, .slice dN bF.length dM]] rfl (by (try simp only [List.map_toArray, List.map_cons, List.map_nil]); first | done | rfl | (simp only [List.length_drop, List.length_take]; rfl)) ?_; (with_reducible refine (lS.calls bP bZ _ _ bF t139 t140 t141 t144 t145 _ ?jv ?jr A2.out).mono ?_); (case jv => repeat (first | exact (Kd.jC wK.out HB.out) | (with_reducible refine Kd.lH ?_ _) | (with_reducible refine Kd.lG ?_ _) | (with_reducible refine Kd.nY ?_))); (case jr => exact wM.out); rintro e w7 ⟨abD, rfl, ho0, hb⟩; refine ⟨_, rfl, ?_⟩; have bu := aj.mk (Kd.mX ho0 (bC (by repeat (first | (with_reducible first | exact HB.out | apply ak | apply ah | apply au | refine aG ?_ o_.out | refine aG ?_ uw.out) | exact HB.out)))); have fE := aj.mk (bG (g := kQ) (o := .cells #[.int .i64 bP, .int .i64 bZ, .slice dN bF.length dM] 31 (0, 0)) (by (with_reducible repeat (first | refine aB ?_ _ | refine aH ?_ | refine aC ?_ _)); exact gY.out) hb); have fD := aj.mk (bG (g := kC) (o := .cells #[.int .i64 0, .int .i64 0, .slice none 0 0] 31 (0, 0)) (by (with_reducible repeat (first | refine aB ?_ _ | refine aH ?_ | refine aC ?_ _)); exact iM.out) hb); have iq := aj.mk (aO (by repeat (first | (with_reducible first | exact HB.out | apply ak | apply ah | apply au | refine aG ?_ o_.out | refine aG ?_ uw.out) | exact HB.out)) hb); clear gY; clear iM; clear HB; have AU := bu; have gY := fE; have iM := fD; have HB := iq; clear bu fE fD iq; (try clear hb); (try clear hb2); (try clear hk); (try clear hi); (try clear ho0)) | ((with_reducible refine dQ (N := 3) rfl ?_); refine dJ ?hg (N := 3) ?hd (cs := #[.int .i64 0, .int .i64 0, .slice none 0 0]) (t := 31) ?hr ?_; (case hd => rfl); (case hg => rfl); (case hr => first | (go_simp; done) | (go_simp; rfl)); intro jU hg w8 hbox hb; have bu := aj.mk (Kd.lD (by (with_reducible repeat (first | apply Kd.fC | apply Kd.fB | apply Kd.gX)); exact AU.out) hb); have fE := aj.mk (bG (g := kQ) (o := .cells #[.int .i64 bP, .int .i64 bZ, .slice dN bF.length dM] 31 (0, 0)) (by (with_reducible repeat (first | refine aB ?_ _ | refine aH ?_ | refine aC ?_ _)); exact gY.out) hb); have fD := aj.mk (bG (g := kC) (o := .cells #[.int .i64 0, .int .i64 0, .slice none 0 0] 31 (0, 0)) (by (with_reducible repeat (first | refine aB ?_ _ | refine aH ?_ | refine aC ?_ _)); exact iM.out) hb); have iq := aj.mk (aO (by repeat (first | (with_reducible first | exact HB.out | apply ak | apply ah | apply au | refine aG ?_ o_.out | refine aG ?_ uw.out) | exact HB.out)) hb); have jP := aj.mk (hbox); have ku := aj.mk ((by rw [hg]; exact (bC (by repeat (first | (with_reducible first | exact HB.out | apply ak | apply ah | apply au | refine aG ?_ o_.out | refine aG ?_ uw.out) | exact HB.out))) : w.heap.size ≤ jU)); have kM := aj.mk ((by rw [hg]; exact (bC (by repeat (first | (with_reducible first | exact HB.out | apply ak | apply ah | apply au | refine aG ?_ o_.out | refine aG ?_ uw.out) | exact HB.out))) : w.heap.size ≤ jU)); have qg := aj.mk ((by rw [hg]; exact Nat.ne_of_lt (dU (g := kQ) (o := .cells #[.int .i64 bP, .int .i64 bZ, .slice dN bF.length dM] 31 (0, 0)) (by (with_reducible repeat (first | refine aB ?_ _ | refine aH ?_ | refine aC ?_ _)); exact gY.out)) : kQ ≠ jU)); have tJ := aj.mk ((by rw [hg]; exact Nat.ne_of_gt (dU (g := kQ) (o := .cells #[.int .i64 bP, .int .i64 bZ, .slice dN bF.length dM] 31 (0, 0)) (by (with_reducible repeat (first | refine aB ?_ _ | refine aH ?_ | refine aC ?_ _)); exact gY.out)) : jU ≠ kQ)); have Dw := aj.mk ((by rw [hg]; exact Nat.ne_of_lt (dU (g := kC) (o := .cells #[.int .i64 0, .int .i64 0, .slice none 0 0] 31 (0, 0)) (by (with_reducible repeat (first | refine aB ?_ _ | refine aH ?_ | refine aC ?_ _)); exact iM.out)) : kC ≠ jU)); have qU := aj.mk ((by rw [hg]; exact Nat.ne_of_gt (dU (g := kC) (o := .cells #[.int .i64 0, .int .i64 0, .slice none 0 0] 31 (0, 0)) (by (with_reducible repeat (first | refine aB ?_ _ | refine aH ?_ | refine aC ?_ _)); exact iM.out)) : jU ≠ kC)); clear AU; clear gY; clear iM; clear HB; have AU := bu; have gY := fE; have iM := fD; have HB := iq; have iL := jP; have abg := ku; have IY := kM; have nJ := qg; have xO := tJ; have nI := Dw; have xN := qU; clear bu fE fD iq jP ku kM qg tJ Dw qU; clear hb hbox hg; have ab5 := xO.out; have ab1 := nJ.out; have Qu := xN.out; have Qq := nI.out; have JQ : w8.cell? ⟨jU, 0, none⟩ = some (.int .i64 0) := (aA iL.out 0).trans rfl; have JP : w8.cell? ⟨jU, 1, none⟩ = some (.int .i64 0) := (aA iL.out 1).trans rfl; have JO : w8.cell? ⟨jU, 2, none⟩ = some (.slice none 0 0) := (aA iL.out 2).trans rfl; have JF := aS iL.out 0; have JE := aS iL.out 1; have JD := aS iL.out 2; obtain ⟨Ui, QL, XV⟩ := Kd.kH AU.out; subst XV))
 go_loopg [15] k (fun kq v15 w' => ∃ (gI : Int) (dG : List Int) (u147002 : Value), v15 = .int .i64 gI ∧ aj (aZ.l0 kq t139 gI t139 t140 dG = some (r1, r2, r3)) ∧ aj (kq ≤ k) ∧ aj (Kd.R (Kd.int .i64) 22 w' w.heap.size (fun _ => True) u147002 dG) ∧ aj (w'.heap[kQ]? = some (.cells #[.int .i64 bP, .int .i64 bZ, (.slice dN bF.length dM)] 31 (0, 0))) ∧ aj (w'.heap[kC]? = some (.cells #[.int .i64 0, .int .i64 0, (.slice none 0 0)] 31 (0, 0))) ∧ aj (w'.heap[jU]? = some (.cells #[.int .i64 t139, .int .i64 t140, u147002] 31 (0, 0))) ∧ aj (Below w.heap.size w w'))
 case atStart => exact ⟨(0), (t141), (.slice Ui t141.length QL), (by first | rfl | (simp; done) | (simp [*]; done)), H', ⟨Nat.le_refl _⟩, ⟨by (with_reducible repeat (first | apply Kd.fC | apply Kd.fB | apply Kd.gX)); exact Kd.jo (Kd.kS (p := ⟨jU, 2, none⟩) (Kd.kS (p := ⟨jU, 1, none⟩) (Kd.kS (p := ⟨jU, 0, none⟩) (Kd.pO AU.out iL.out (by decide)) (fun _ hk => hk.2) (.int .i64 t139)) (fun _ hk => hk.2) (.int .i64 t140)) (fun _ hk => hk.2) (.slice Ui t141.length QL)) (fun _ hk => trivial)⟩, ⟨by (with_reducible repeat (first | refine aB ?_ _ | refine aH ?_ | refine aC ?_ _)); refine jA ?_ nJ.out _; (with_reducible repeat (first | refine aB ?_ _ | refine aH ?_ | refine aC ?_ _)); refine jA ?_ nJ.out _; (with_reducible repeat (first | refine aB ?_ _ | refine aH ?_ | refine aC ?_ _)); refine jA ?_ nJ.out _; (with_reducible repeat (first | refine aB ?_ _ | refine aH ?_ | refine aC ?_ _)); exact gY.out⟩, ⟨by (with_reducible repeat (first | refine aB ?_ _ | refine aH ?_ | refine aC ?_ _)); refine jA ?_ nI.out _; (with_reducible repeat (first | refine aB ?_ _ | refine aH ?_ | refine aC ?_ _)); refine jA ?_ nI.out _; (with_reducible repeat (first | refine aB ?_ _ | refine aH ?_ | refine aC ?_ _)); refine jA ?_ nI.out _; (with_reducible repeat (first | refine aB ?_ _ | refine aH ?_ | refine aC ?_ _)); exact iM.out⟩, ⟨by (with_reducible repeat (first | refine aB ?_ _ | refine aH ?_ | refine aC ?_ _)); refine dS (cs := #[.int .i64 t139, .int .i64 t140, .slice none 0 0]) ?_ 2 _ rfl; (with_reducible repeat (first | refine aB ?_ _ | refine aH ?_ | refine aC ?_ _)); refine dS (cs := #[.int .i64 t139, .int .i64 0, .slice none 0 0]) ?_ 1 _ rfl; (with_reducible repeat (first | refine aB ?_ _ | refine aH ?_ | refine aC ?_ _)); refine dS (cs := #[.int .i64 0, .int .i64 0, .slice none 0 0]) ?_ 0 _ rfl; (with_reducible repeat (first | refine aB ?_ _ | refine aH ?_ | refine aC ?_ _)); exact iL.out⟩, ⟨by repeat (first | (with_reducible first | exact HB.out | apply ak | apply ah | apply au | refine aG ?_ o_.out | refine aG ?_ uw.out | refine aG ?_ IY.out) | exact HB.out)⟩⟩
 case round =>
  clear H'
  try clear c1
  try clear p2
  try clear c5
  try clear c9
  try clear c10
  try clear c11
  try clear JQ
  try clear JP
  try clear JO
  try clear Hw
  try clear Hu
  try clear NC
  try clear JF
  try clear JE
  try clear JD
  try clear Hq
  try clear Ho
  try clear Ns
  obtain ⟨gI, dG, u147002, rfl, HA, AV, eH, gY, iM, iL, HB⟩ := hrel
  cases gk with
  | zero => exact absurd HA.out (by simp [aZ.l0])
  | succ k1 =>
    have H := HA.out
    clear HA
    simp only [aZ.l0] at H
    by_cases c13 : gI < t139
    · rw [if_pos c13] at H
      have QX : decide (gI < t139) = true := decide_eq_true c13
      clear c13
      obtain ⟨lU, Hg⟩ : ∃ j_ : Int, (wrap64 ((wrap64 (gI * t140)) + gI)) = j_ := ⟨_, rfl⟩
      replace H : (if 0 ≤ (lU) then (if (lU) < (dG.length : Int) then (aZ.l0 k1 t139 (wrap64 (gI + 1)) t139 t140 (dG.set ((lU) : Int).toNat (mx (rd dG (lU)) 0))) else (none)) else (none)) = some (r1, r2, r3) := by first | (rw [Hg] at H; exact H) | (simp only [Hg] at H ⊢; exact H)
      have Xj : (IntKind.i64.wrap ((wrap64 (gI * t140)) + gI)) = lU := (bK _).trans Hg
      by_cases c15 : 0 ≤ (lU)
      · rw [if_pos c15] at H
        have LG : decide (0 ≤ (lU)) = true := decide_eq_true c15
        clear c15
        by_cases c16 : (lU) < (dG.length : Int)
        · rw [if_pos c16] at H
          have xH : decide ((lU) < (dG.length : Int)) = true := decide_eq_true c16
          clear c16
          obtain ⟨g_, lW⟩ : ∃ j_ : Int, (mx (rd dG (lU)) 0) = j_ := ⟨_, rfl⟩
          replace H : (aZ.l0 k1 t139 (wrap64 (gI + 1)) t139 t140 (dG.set ((lU) : Int).toNat (g_))) = some (r1, r2, r3) := by first | (rw [lW] at H; exact H) | (simp only [lW] at H ⊢; exact H)
          have Nl : (if (rd dG (lU)) < 0 then 0 else (rd dG (lU))) = g_ := lW
          obtain ⟨PT, zD⟩ : ∃ y_ : List Int, y_ = (dG.set ((lU) : Int).toNat (g_)) := ⟨_, rfl⟩
          replace H : (aZ.l0 k1 t139 (wrap64 (gI + 1)) t139 t140 PT) = some (r1, r2, r3) := by first | (rw [zD]; with_reducible exact H) | (have Zf := (Option.bind_some _ _).symm.trans H; rw [zD]; with_reducible exact Zf) | (have Zf := (Option.bind_some _ _).symm.trans H; with_reducible exact Zf) | with_reducible exact H | (rw [zD]; exact H) | exact H
          have S_ := aj.mk zD
          clear zD
          have H' := aj.mk H
          clear H
          try go_wp2
          have bu := aj.mk (Kd.gX eH.out)
          have fE := aj.mk (aH gY.out)
          have fD := aj.mk (aH iM.out)
          have iq := aj.mk (aH iL.out)
          have jP := aj.mk (au HB.out)
          clear eH
          clear gY
          clear iM
          clear iL
          clear HB
          have eH := bu
          have gY := fE
          have iM := fD
          have iL := iq
          have HB := jP
          clear bu fE fD iq jP
          obtain ⟨KN, FM, Ie⟩ := Kd.kH eH.out
          (first | subst Ie | (injection Ie with zT H9 zS; have H7 := zT.symm; have H6 := zS.symm; clear zT H9 zS; subst H7; subst H6))
          have MM : 0 ≤ ((lU) : Int) := of_decide_eq_true (by first | (with_reducible assumption) | assumption)
          have ML : (lU) < (dG.length : Int) := of_decide_eq_true (by first | (with_reducible assumption) | assumption)
          obtain ⟨aaj, Ya, yA⟩ := Kd.wG (Kd.mg eH.out).2.2 (lU) MM ML
          cases Ya
          replace MM := eq_true MM
          replace ML := eq_true ML
          have Wx : 0 ≤ ((lU) : Int) := of_decide_eq_true (by first | (with_reducible assumption) | assumption)
          have Wv : ((lU) : Int) < ((dG.length : Int) : Int) := of_decide_eq_true (by first | (with_reducible assumption) | assumption)
          obtain ⟨ND, J5, Ig, QA, XQ, acC, TR⟩ := Kd.Ol eH.out (by omega)
          (first | cases Ig | (injection Ig with VI en_ ec_; (first | subst VI | (injection VI with VI; subst VI)); subst ec_; clear en_))
          have Zh := aj.mk QA
          have Zg := aj.mk TR
          clear QA XQ TR
          (first | simp only [add_plain] at yA | skip)
          obtain ⟨Na, Nu⟩ := Kd.Kt 0 eH.out ((lU) : Int) Wx Wv
          replace Wx := eq_true Wx
          replace Wv := eq_true Wv
          have OT := Kd.Oi eH.out ((lU) : Int) g_
          rw [← S_.out] at OT
          have TM := aj.mk OT
          clear OT
          refine yf (n := 21) (S := fun w' => w'.cell? ⟨jU, 0, none⟩ = some (.int .i64 t139) ∧ w'.cell? ⟨jU, 1, none⟩ = some (.int .i64 t140) ∧ w'.cell? ⟨jU, 2, none⟩ = some (.slice (some ⟨ND, 0, none⟩) dG.length FM) ∧ w'.cell? ⟨ND, ((lU)).toNat, none⟩ = some (.int .i64 (rd dG (lU)))) (ds := [20]) #[false, false, false, false, false, false, false, false, false, false, false, false, false, false, false, false, false, false, false, false, false] (by kernel_rfl) rfl rfl ⟨(aA iL.out 0).trans rfl, (aA iL.out 1).trans rfl, (aA iL.out 2).trans rfl, yA⟩ (fun hHeld => ?_); refine pz aZ.Ws aZ.Q3 (fun jf AQ => ?_)
          generalize wr.drew = Zl at eH gY iM iL HB Zg TM Nu yA Na hHeld ⊢
          refine dV (i := 0) (N := some 18) (v := ?_) (a' := ?_) #[true, false, false, false, false, false, false, false, false, false, false, false, false, false, false, false, false, false, false, false, false] rfl rfl (dn jf.out (by kernel_rfl)) (fun _ _ _ h => h) (Or.inl ⟨by rfl, ?_⟩) ?_ ?_
          rotate_left
          · intro w'
            go_simp
            with_reducible rfl
          rotate_left
          · simp only [Act.put, List.setIfInBounds_toArray, List.set_cons_zero, List.set_cons_succ, bK, bU]
            rfl
          refine dV (i := 2) (N := some 20) (v := ?_) (a' := ?_) #[true, false, true, false, false, false, false, false, false, false, false, false, false, false, false, false, false, false, false, false, false] rfl rfl (dn jf.out (by kernel_rfl)) (fun _ _ _ h => h) (Or.inl ⟨by rfl, ?_⟩) ?_ ?_
          rotate_left
          · intro w'
            go_simp
            with_reducible rfl
          rotate_left
          · simp only [Act.put, List.setIfInBounds_toArray, List.set_cons_zero, List.set_cons_succ, bK, bU]
            rfl
          refine dV (i := 3) (N := some 21) (v := ?_) (a' := ?_) #[true, false, true, true, false, false, false, false, false, false, false, false, false, false, false, false, false, false, false, false, false] rfl rfl (dn jf.out (by kernel_rfl)) (fun _ _ _ h => h) (Or.inl ⟨by rfl, ?_⟩) ?_ ?_
          rotate_left
          · intro w'
            go_simp
            with_reducible rfl
          rotate_left
          · simp only [Act.put, List.setIfInBounds_toArray, List.set_cons_zero, List.set_cons_succ, bK, bU]
            rfl
          refine dV (i := 6) (N := some 24) (v := ?_) (a' := ?_) #[true, false, true, true, false, false, true, false, false, false, false, false, false, false, false, false, false, false, false, false, false] rfl rfl (dn jf.out (by kernel_rfl)) (fun _ _ _ h => h) (Or.inl ⟨by rfl, ?_⟩) ?_ ?_
          rotate_left
          · intro w'
            go_simp
            with_reducible rfl
          rotate_left
          · simp only [Act.put, List.setIfInBounds_toArray, List.set_cons_zero, List.set_cons_succ, bK, bU]
            rfl
          refine dV (i := 8) (N := some 26) (v := ?_) (a' := ?_) #[true, false, true, true, false, false, true, false, true, false, false, false, false, false, false, false, false, false, false, false, false] rfl rfl (dn jf.out (by kernel_rfl)) (fun _ _ _ h => h) (Or.inl ⟨by rfl, ?_⟩) ?_ ?_
          rotate_left
          · intro w'
            go_simp
            with_reducible rfl
          rotate_left
          · simp only [Act.put, List.setIfInBounds_toArray, List.set_cons_zero, List.set_cons_succ, bK, bU]
            rfl
          refine dV (i := 10) (N := some 28) (v := ?_) (a' := ?_) #[true, false, true, true, false, false, true, false, true, false, true, false, false, false, false, false, false, false, false, false, false] rfl rfl (dn jf.out (by kernel_rfl)) (fun _ _ _ h => h) (Or.inl ⟨by rfl, ?_⟩) ?_ ?_
          rotate_left
          · intro w'
            go_simp
            with_reducible rfl
          rotate_left
          · simp only [Act.put, List.setIfInBounds_toArray, List.set_cons_zero, List.set_cons_succ, bK, bU]
            rfl
          refine dV (i := 11) (N := some 29) (v := ?_) (a' := ?_) #[true, false, true, true, false, false, true, false, true, false, true, true, false, false, false, false, false, false, false, false, false] rfl rfl (dn jf.out (by kernel_rfl)) (fun _ _ _ h => h) (Or.inl ⟨by rfl, ?_⟩) ?_ ?_
          rotate_left
          · intro w'
            go_simp
            with_reducible rfl
          rotate_left
          · simp only [Act.put, List.setIfInBounds_toArray, List.set_cons_zero, List.set_cons_succ, bK, bU]
            rfl
          refine dV (i := 14) (N := some 32) (v := ?_) (a' := ?_) #[true, false, true, true, false, false, true, false, true, false, true, true, false, false, true, false, false, false, false, false, false] rfl rfl (dn jf.out (by kernel_rfl)) (fun _ _ _ h => h) (Or.inl ⟨by rfl, ?_⟩) ?_ ?_
          rotate_left
          · intro w'
            go_simp
            with_reducible rfl
          rotate_left
          · simp only [Act.put, List.setIfInBounds_toArray, List.set_cons_zero, List.set_cons_succ, bK, bU]
            rfl
          refine mJ (i := 1) (N := some 19) (v := ?_) (a' := ?_) #[true, true, true, true, false, false, true, false, true, false, true, true, false, false, true, false, false, false, false, false, false] rfl rfl (fK jf.out AQ.out (by kernel_rfl)) (fun _ _ _ h => h) (Or.inl ⟨by rfl, ?_⟩) hHeld ?_ ?_
          rotate_left
          · rintro w' ⟨s0, s1, s2, s3⟩
            go_simp
            with_reducible rfl
          rotate_left
          · simp only [Act.put, List.setIfInBounds_toArray, List.set_cons_zero, List.set_cons_succ, bK, bU]
            rfl
          refine mJ (i := 4) (N := some 22) (v := ?_) (a' := ?_) #[true, true, true, true, true, false, true, false, true, false, true, true, false, false, true, false, false, false, false, false, false] rfl rfl (fK jf.out AQ.out (by kernel_rfl)) (fun _ _ _ h => h) (Or.inl ⟨by rfl, ?_⟩) hHeld ?_ ?_
          rotate_left
          · rintro w' ⟨s0, s1, s2, s3⟩
            go_simp
            with_reducible rfl
          rotate_left
          · simp only [Act.put, List.setIfInBounds_toArray, List.set_cons_zero, List.set_cons_succ, bK, bU]
            rfl
          refine dV (i := 5) (N := some 23) (v := ?_) (a' := ?_) #[true, true, true, true, true, true, true, false, true, false, true, true, false, false, true, false, false, false, false, false, false] rfl rfl (dn jf.out (by kernel_rfl)) (fun _ _ _ h => h) (Or.inl ⟨by rfl, ?_⟩) ?_ ?_
          rotate_left
          · intro w'
            go_simp
            with_reducible rfl
          rotate_left
          · simp only [Act.put, List.setIfInBounds_toArray, List.set_cons_zero, List.set_cons_succ, bK, bU]
            rfl
          refine dV (i := 7) (N := some 25) (v := ?_) (a' := ?_) #[true, true, true, true, true, true, true, true, true, false, true, true, false, false, true, false, false, false, false, false, false] rfl rfl (dn jf.out (by kernel_rfl)) (fun _ _ _ h => h) (Or.inl ⟨by rfl, ?_⟩) ?_ ?_
          rotate_left
          · intro w'
            go_simp
            with_reducible rfl
          rotate_left
          · simp only [Act.put, List.setIfInBounds_toArray, List.set_cons_zero, List.set_cons_succ, bK, bU]
            rfl
          refine mJ (i := 9) (N := some 27) (v := ?_) (a' := ?_) #[true, true, true, true, true, true, true, true, true, true, true, true, false, false, true, false, false, false, false, false, false] rfl rfl (fK jf.out AQ.out (by kernel_rfl)) (fun _ _ _ h => h) (Or.inl ⟨by rfl, ?_⟩) hHeld ?_ ?_
          rotate_left
          · rintro w' ⟨s0, s1, s2, s3⟩
            go_simp
            with_reducible rfl
          rotate_left
          · simp only [Act.put, List.setIfInBounds_toArray, List.set_cons_zero, List.set_cons_succ, bK, bU]
            rfl
          refine mJ (i := 12) (N := some 30) (v := ?_) (a' := ?_) #[true, true, true, true, true, true, true, true, true, true, true, true, true, false, true, false, false, false, false, false, false] rfl rfl (fK jf.out AQ.out (by kernel_rfl)) (fun _ _ _ h => h) (Or.inl ⟨by rfl, ?_⟩) hHeld ?_ ?_
          rotate_left
          · rintro w' ⟨s0, s1, s2, s3⟩
            go_simp
            with_reducible rfl
          rotate_left
          · simp only [Act.put, List.setIfInBounds_toArray, List.set_cons_zero, List.set_cons_succ, bK, bU]
            rfl
          refine dV (i := 13) (N := some 31) (v := ?_) (a' := ?_) #[true, true, true, true, true, true, true, true, true, true, true, true, true, true, true, false, false, false, false, false, false] rfl rfl (dn jf.out (by kernel_rfl)) (fun _ _ _ h => h) (Or.inl ⟨by rfl, ?_⟩) ?_ ?_
          rotate_left
          · intro w'
            go_simp
            with_reducible rfl
          rotate_left
          · simp only [Act.put, List.setIfInBounds_toArray, List.set_cons_zero, List.set_cons_succ, bK, bU]
            rfl
          refine dV (i := 15) (N := some 33) (v := ?_) (a' := ?_) #[true, true, true, true, true, true, true, true, true, true, true, true, true, true, true, true, false, false, false, false, false] rfl rfl (dn jf.out (by kernel_rfl)) (fun _ _ _ h => h) (Or.inl ⟨by rfl, ?_⟩) ?_ ?_
          rotate_left
          · intro w'
            go_simp
            with_reducible rfl
          rotate_left
          · simp only [Act.put, List.setIfInBounds_toArray, List.set_cons_zero, List.set_cons_succ, bK, bU]
            rfl
          refine dV (i := 16) (N := some 34) (v := ?_) (a' := ?_) #[true, true, true, true, true, true, true, true, true, true, true, true, true, true, true, true, true, false, false, false, false] rfl rfl (dn jf.out (by kernel_rfl)) (fun _ _ _ h => h) (Or.inl ⟨by rfl, ?_⟩) ?_ ?_
          rotate_left
          · intro w'
            go_simp
            with_reducible rfl
          rotate_left
          · simp only [Act.put, List.setIfInBounds_toArray, List.set_cons_zero, List.set_cons_succ, bK, bU]
            rfl
          refine mJ (i := 17) (N := some 35) (v := ?_) (a' := ?_) #[true, true, true, true, true, true, true, true, true, true, true, true, true, true, true, true, true, true, false, false, false] rfl rfl (fK jf.out AQ.out (by kernel_rfl)) (fun _ _ _ h => h) (Or.inl ⟨by rfl, ?_⟩) hHeld ?_ ?_
          rotate_left
          · rintro w' ⟨s0, s1, s2, s3⟩
            go_simp
            with_reducible rfl
          rotate_left
          · simp only [Act.put, List.setIfInBounds_toArray, List.set_cons_zero, List.set_cons_succ, bK, bU]
            rfl
          refine dV (i := 18) (N := some 36) (v := ?_) (a' := ?_) #[true, true, true, true, true, true, true, true, true, true, true, true, true, true, true, true, true, true, true, false, false] rfl rfl (dn jf.out (by kernel_rfl)) (fun _ _ _ h => h) (Or.inl ⟨by rfl, ?_⟩) ?_ ?_
          rotate_left
          · intro w'
            go_simp
            with_reducible rfl
          rotate_left
          · simp only [Act.put, List.setIfInBounds_toArray, List.set_cons_zero, List.set_cons_succ, bK, bU]
            rfl
          refine dV (i := 19) (N := some 37) (v := ?_) (a' := ?_) #[true, true, true, true, true, true, true, true, true, true, true, true, true, true, true, true, true, true, true, true, false] rfl rfl (dn jf.out (by kernel_rfl)) (fun _ _ _ h => h) (Or.inl ⟨by rfl, ?_⟩) ?_ ?_
          rotate_left
          · intro w'
            go_simp
            with_reducible rfl
          rotate_left
          · simp only [Act.put, List.setIfInBounds_toArray, List.set_cons_zero, List.set_cons_succ, bK, bU]
            rfl
          refine Qe (i := 20) (N := none) #[true, true, true, true, true, true, true, true, true, true, true, true, true, true, true, true, true, true, true, true, true] rfl rfl (kW jf.out (by kernel_rfl)) (by decide) (fun K hK => ?_)
          refine K_ (w1 := ?_) (by rfl) rfl ?_ ?_
          rotate_left
          · go_simp
            rfl
          refine hK.out _ _ ?_
          clear hK K
          refine DN (uQ jf.out (by kernel_rfl)) ?_
          try go_wp2
          go_roundg k1
          case measure => have := AV.out; omega
          case rel => exact ⟨(wrap64 (gI + 1)), (PT), (.slice (some ⟨ND, 0, none⟩) dG.length FM), (by first | rfl | (simp; done) | (simp [*]; done)), H', ⟨by have := AV.out; omega⟩, ⟨by (with_reducible repeat (first | apply Kd.fC | apply Kd.fB | apply Kd.gX)); exact TM.out⟩, ⟨by (with_reducible repeat (first | refine aB ?_ _ | refine aH ?_ | refine aC ?_ _)); refine jA ?_ (by have h_ := Kd.yM eH.out gY.out (by decide); intro e_; exact h_ (by rw [e_]; rfl)) _; (with_reducible repeat (first | refine aB ?_ _ | refine aH ?_ | refine aC ?_ _)); exact gY.out⟩, ⟨by (with_reducible repeat (first | refine aB ?_ _ | refine aH ?_ | refine aC ?_ _)); refine jA ?_ (by have h_ := Kd.yM eH.out iM.out (by decide); intro e_; exact h_ (by rw [e_]; rfl)) _; (with_reducible repeat (first | refine aB ?_ _ | refine aH ?_ | refine aC ?_ _)); exact iM.out⟩, ⟨by (with_reducible repeat (first | refine aB ?_ _ | refine aH ?_ | refine aC ?_ _)); refine jA ?_ (by have h_ := Kd.yM eH.out iL.out (by decide); intro e_; exact h_ (by rw [e_]; rfl)) _; (with_reducible repeat (first | refine aB ?_ _ | refine aH ?_ | refine aC ?_ _)); exact iL.out⟩, ⟨by repeat (first | (with_reducible first | exact HB.out | apply ak | apply ah | apply au | refine aG ?_ Zh.out | refine aG ?_ o_.out | refine aG ?_ uw.out | refine aG ?_ IY.out) | exact HB.out)⟩⟩
        · rw [if_neg c16] at H
          exact absurd H (by simp)
      · rw [if_neg c15] at H
        exact absurd H (by simp)
    · rw [if_neg c13] at H
      have QX : decide (gI < t139) = false := decide_eq_false c13
      clear c13
      simp only [Option.some.injEq, Prod.mk.injEq] at H
      obtain ⟨rfl, rfl, rfl⟩ := H
      have Qr := xO.out
      have Qo := nJ.out
      have ZL := xN.out
      have ZG := nI.out
      have Vu : wr.cell? ⟨jU, 0, none⟩ = some (.int .i64 t139) := (aA iL.out 0).trans rfl
      have Vt : wr.cell? ⟨jU, 1, none⟩ = some (.int .i64 t140) := (aA iL.out 1).trans rfl
      have Vs : wr.cell? ⟨jU, 2, none⟩ = some (u147002) := (aA iL.out 2).trans rfl
      have Vb := aS iL.out 0
      have Va := aS iL.out 1
      have U_ := aS iL.out 2
      have ZK := xP.out
      have ZF := xQ.out
      have Vr : wr.cell? ⟨kC, 0, none⟩ = some (.int .i64 0) := (aA iM.out 0).trans rfl
      have Vq : wr.cell? ⟨kC, 1, none⟩ = some (.int .i64 0) := (aA iM.out 1).trans rfl
      have Vp : wr.cell? ⟨kC, 2, none⟩ = some (.slice none 0 0) := (aA iM.out 2).trans rfl
      have U9 := aS iM.out 0
      have U8 := aS iM.out 1
      have U7 := aS iM.out 2
      obtain ⟨Ug, QI, XT⟩ := Kd.kH eH.out
      subst XT
      go_wp2
      refine bodyPost_ret (results_cell_row rfl _ _ kC 31 #[.int .i64 t139, .int .i64 t140, .slice Ug dG.length QI] (0, 0) _ rfl (by (with_reducible repeat (first | refine aB ?_ _ | refine aH ?_ | refine aC ?_ _)); refine dS (cs := #[.int .i64 t139, .int .i64 t140, .slice none 0 0]) ?_ 2 _ rfl; (with_reducible repeat (first | refine aB ?_ _ | refine aH ?_ | refine aC ?_ _)); refine dS (cs := #[.int .i64 t139, .int .i64 0, .slice none 0 0]) ?_ 1 _ rfl; (with_reducible repeat (first | refine aB ?_ _ | refine aH ?_ | refine aC ?_ _)); refine dS (cs := #[.int .i64 0, .int .i64 0, .slice none 0 0]) ?_ 0 _ rfl; (with_reducible repeat (first | refine aB ?_ _ | refine aH ?_ | refine aC ?_ _)); exact iM.out) Try.underlying31 rfl (by kernel_rfl)) rfl ?_
      exact ⟨_, by first | rfl | (simp [aN, aK] <;> rfl) | (simp [*, aN, aK] <;> rfl), by (with_reducible repeat (first | apply Kd.fC | apply Kd.fB | apply Kd.gX)); exact Kd.jo (Kd.kS (p := ⟨kC, 2, none⟩) (Kd.kS (p := ⟨kC, 1, none⟩) (Kd.kS (p := ⟨kC, 0, none⟩) (Kd.pO eH.out iM.out (by decide)) (fun _ hk => hk.2) (.int .i64 t139)) (fun _ hk => hk.2) (.int .i64 t140)) (fun _ hk => hk.2) (.slice Ug dG.length QI)) (fun _ hk => trivial), by repeat (first | (with_reducible first | exact HB.out | apply ak | apply ah | apply au | refine aG ?_ o_.out | refine aG ?_ uw.out | refine aG ?_ IY.out) | exact HB.out)⟩
end Go.Proofs.Ytnijhjbcjeohhaa.PR

namespace Go.Proofs.Ytnijhjbcjeohhaa.PR
open Go.RowKit Go.Proofs.Ytnijhjbcjeohhaa.PQ Go.Proofs.af.aF Go.Proofs.af.aP Go.Proofs.af.aQ
attribute [local go_sem] fU fP iJ iI eG eF fQ fO
set_option linter.unusedVariables false
set_option linter.unusedSimpArgs false
end Go.Proofs.Ytnijhjbcjeohhaa.PR

namespace Go.Proofs.Ytnijhjbcjeohhaa.PR
open Go.RowKit Go.Proofs.Ytnijhjbcjeohhaa.PQ Go.Proofs.af.aF Go.Proofs.af.aP Go.Proofs.af.aQ Go.Proofs.Ytnijhjbcjeohhaa.KK
set_option linter.unusedVariables false
set_option linter.unusedSimpArgs false
theorem _root_.Go.Proofs.Ytnijhjbcjeohhaa.KK.Rd.touch {w w' : World} {A : Option Addr} {l : List Int} {g : Nat} (h : Rd w A l) (hg : w.grownBy w' (some g)) (hne : ∀ ad, A = some ad → 0 < l.length → ad.block ≠ g) : Rd w' A l := by
 refine ⟨h.1, h.2.1, fun hp => ?_⟩
 obtain ⟨ad, e, hc⟩ := h.2.2 hp
 refine ⟨ad, e, fun j p hj => ?_⟩
 obtain ⟨c, h1, h2, h3⟩ := hc j p hj
 refine ⟨c, h1, h2, fun i u hi => ?_⟩
 have hx := h3 i u hi
 have hb : (ad.add (j * (Kd.int .i64).sz + i)).block = ad.block := nV _ _
 have hlt := cell_lt hx
 rw [hb] at hlt
 have hk := hg.block ad.block hlt (fun e' => hne ad e hp (by injection e'))
 rw [← hx]
 unfold World.cell?
 rw [hb, hk]
theorem _root_.Go.Proofs.Ytnijhjbcjeohhaa.KK.Own.touch {w w' : World} {base g : Nat} {v : Value} {l : List Int} (h : Own w base v l) (hg : w.grownBy w' (some g)) (hb : g < base) : Own w' base v l :=
 Own.oJ (jO h.row fun k hk => hg.block k (h.row.lt k hk).2 (fun e => by have := (h.row.lt k hk).1; injection e with e; omega))
structure Sg (w0 : World) (g : Nat) (L : List (TypeId × Array Value)) (w : World) : Prop where
 rows : KK.Rows w w0.heap.size L
 gr : w0.grownBy w (some g)
section
variable {w w' w0 : World} {g : Nat} {L : List (TypeId × Array Value)}
theorem Sg.of (h : aV w0 L w) : Sg w0 g L w := ⟨h.rows, KK.dI h.be _⟩
theorem Sg.below (h : Sg w0 g L w) (hb : Below w.heap.size w w') : Sg w0 g L w' := ⟨h.rows.below hb, bI h.gr (KK.dI hb _)⟩
theorem Sg.alloc (h : Sg w0 g L w) (o : Obj) : Sg w0 g L (w.alloc o) := h.below ((Below.refl _ _).alloc (Nat.le_refl _) o)
theorem Sg.drew (h : Sg w0 g L w) : Sg w0 g L w.drew := h.below (Below.refl _ _).drew
theorem Sg.touch (h : Sg w0 g L w) (hg : w.grownBy w' (some g)) (hlt : g < w0.heap.size) : Sg w0 g L w' :=
 ⟨h.rows.imp fun k t cs hk _ r => r.grown hg (fun e => by injection e with e; omega), bI h.gr hg⟩
variable {x0 x1 x2 x3 x4 x5 : TypeId × Array Value}
theorem Sg.r0 (h : Sg w0 g (x0 :: L) w) : Row w w0.heap.size x0.1 x0.2 := h.rows.1
theorem Sg.r1 (h : Sg w0 g (x0 :: x1 :: L) w) : Row w (w0.heap.size + 1) x1.1 x1.2 := h.rows.2.1
theorem Sg.r2 (h : Sg w0 g (x0 :: x1 :: x2 :: L) w) : Row w (w0.heap.size + 1 + 1) x2.1 x2.2 := h.rows.2.2.1
theorem Sg.r3 (h : Sg w0 g (x0 :: x1 :: x2 :: x3 :: L) w) : Row w (w0.heap.size + 1 + 1 + 1) x3.1 x3.2 := h.rows.2.2.2.1
end
theorem qR (g : Nat) (s o : Bool) (q : Int) (w : World) (R : Row w g 158 #[.bool s]) :
 Calls Try.prog 119 #[.pointer (some ⟨g, 0, none⟩), I q, .bool o] w fun e w' => e = .returned (I q) ∧ Row w' g 158 #[.bool (s || o)] ∧ w.grownBy w' (some g) := by
 have x := R.cell
 have f := R.free
 have HR := Lib.hid (R.set 0 (.bool (s || o)))
 have HG : Hid (w.grownBy (w.setCell ⟨g, 0, none⟩ (.bool (s || o))) (some g)) := Lib.hid ⟨rfl, rfl, rfl, by simp, fun k hk hne => Below.heap_setCell w _ _ k (fun e => hne (by rw [e]))⟩
 clear R
 cases s
 all_goals
  go_enter Try.func119, Try.ntmps119
  go_wp2
  go_ret
  exact ⟨rfl, by simpa using HR.out, by simpa using HG.out⟩
theorem EC (w : World) (g j : Nat) (u : Value) : w.grownBy (w.setCell ⟨g, j, none⟩ u) (some g) := ⟨rfl, rfl, rfl, by simp, fun k hk hne => Below.heap_setCell w _ _ k (fun e => hne (by rw [e]))⟩
theorem ET (g : Nat) (s u : Bool) (X : Array Value) (w : World) (R : Row w g 158 #[.bool s]) (W : World) (hW : W = ((w.setCell ⟨g, 0, none⟩ (.bool u)).alloc (.cells X 31)).alloc (.cells X 31)) :
 Row W (w.heap.size + 1) 31 X ∧ Row W g 158 #[.bool u] ∧ w.grownBy W (some g) := by
 subst hW
 refine ⟨?_, ?_, ?_⟩
 · have := Row.new ((w.setCell ⟨g, 0, none⟩ (.bool u)).alloc (.cells X 31)) 31 X
   simpa using this
 · exact ((R.set 0 (.bool u)).alloc _).alloc _
 · exact bI (EC w g 0 _) (KK.dI (((Below.refl _ _).alloc (Nat.le_refl _) _).alloc (by simp) _) _)
theorem lT (g : Nat) (s o : Bool) (a b c : Int) (A : Option Addr) (n cp : Nat) (w : World) (R : Row w g 158 #[.bool s]) :
 Calls Try.prog 100 #[.pointer (some ⟨g, 0, none⟩), .agg #[I a, I b, .slice A n cp], .bool o, I c] w fun e w' => e = .returned (.agg #[I a, I b, .slice A n cp]) ∧ Row w' g 158 #[.bool (s || o)] ∧ w.grownBy w' (some g) := by
 have hg := R.lt
 have E := Lib.hid (fun u W h => ET g s u #[I a, I b, .slice A n cp] w R W h)
 have x := R.cell
 have f := R.free
 clear R
 cases s
 all_goals
  go_enter Try.func100, Try.ntmps100
  go_wp2
  first
   | exact bodyPost_ret (Ji rfl rfl (E.out o _ rfl).1) rfl ⟨rfl, (E.out o _ rfl).2.1, (E.out o _ rfl).2.2⟩
   | exact bodyPost_ret (Ji rfl rfl (E.out true _ rfl).1) rfl ⟨rfl, (E.out true _ rfl).2.1, (E.out true _ rfl).2.2⟩
end Go.Proofs.Ytnijhjbcjeohhaa.PR

namespace Go.Proofs.Ytnijhjbcjeohhaa.PR
open Go.RowKit Go.Proofs.Ytnijhjbcjeohhaa.PQ Go.Proofs.af.aF Go.Proofs.af.aP Go.Proofs.af.aQ Go.Proofs.Ytnijhjbcjeohhaa.KK
set_option linter.unusedVariables false
set_option linter.unusedSimpArgs false
theorem zh {w0 w : World} {g : Nat} {s : Bool} (h : ay w0 w g s) : Row w g 158 #[.bool s] := h.1
theorem grown_of {w0 w w' : World} {g : Nat} (hB : Below w0.heap.size w0 w) (hB' : Below w0.heap.size w0 w') (hk : aW w w' g none) : w.grownBy w' (some g) :=
 ⟨hB'.os.trans hB.os.symm, hB'.tape.trans hB.tape.symm, hB'.output.trans hB.output.symm, hk.1, fun k hk' hne => hk.2 k hk' (fun e => hne (by rw [e])) (by simp)⟩
theorem oZ {w0 w w' : World} {g : Nat} (hB : Below w0.heap.size w0 w) (hg : w0.heap.size ≤ g) (h : w.grownBy w' (some g)) : Below w0.heap.size w0 w' :=
 ⟨h.os.trans hB.os, h.tape.trans hB.tape, h.output.trans hB.output, Nat.le_trans hB.size h.size, fun k hk => (h.block k (Nat.lt_of_lt_of_le hk hB.size) (fun e => by injection e with e; omega)).trans (hB.block k hk)⟩
theorem Js {w w' : World} {g : Nat} (h : w.grownBy w' (some g)) : aW w w' g none := ⟨h.size, fun k hk hne _ => h.block k hk (fun e => hne (by injection e))⟩
theorem sS (w0 w : World) (g : Nat) (s : Bool) (bJ bM : Int) (A1 : Option Addr) (c1 : Nat) (l1 : List Int) (jK jJ : Int) (A2 : Option Addr) (c2 : Nat) (l2 : List Int) (r1 r2 : Int) (r3 : List Int) (r4 : Bool)
 (R : Row w g 158 #[.bool s]) (hg : w0.heap.size ≤ g) (hB : Below w0.heap.size w0 w) (h1 : Rd w A1 l1) (hc1 : l1.length ≤ c1) (hf1 : ∀ ad, A1 = some ad → 0 < l1.length → ad.block ≠ g) (h2 : Rd w A2 l2) (hc2 : l2.length ≤ c2) (hf2 : ∀ ad, A2 = some ad → 0 < l2.length → ad.block ≠ g)
 (h : aY.f s bJ bM l1 jK jJ l2 = some (r1, r2, r3, r4)) :
 Calls Try.prog 103 #[.pointer (some ⟨g, 0, none⟩), .agg #[I bJ, I bM, .slice A1 l1.length c1], .agg #[I jK, I jJ, .slice A2 l2.length c2]] w fun e w' => ∃ A c, e = .returned (.agg #[I r1, I r2, .slice A r3.length c]) ∧ Own w' w.heap.size (.slice A r3.length c) r3 ∧ Row w' g 158 #[.bool r4] ∧ w.grownBy w' (some g) := by
 refine (aY.calls g s bJ bM A1 c1 l1 jK jJ A2 c2 l2 r1 r2 r3 r4 w0 w ⟨R, hg⟩ hB h1 hc1 hf1 h2 hc2 hf2 h).mono ?_
 rintro e w' ⟨v, rfl, ho, hI, hb, hk⟩
 obtain ⟨A, c, rfl, _, _⟩ := Own.reads ho
 exact ⟨A, c, rfl, ho, hI.1, grown_of hB hb hk⟩
theorem Own.first {w : World} {base : Nat} {A : Option Addr} {c : Nat} {l : List Int} (h : Own w base (.slice A l.length c) l) (hp : 0 < l.length) : ∃ b off, A = some ⟨b, off, none⟩ ∧ w.cell? ⟨b, off, none⟩ = some (I (l.getD 0 0)) ∧ base ≤ b := by
 obtain ⟨A', c', he, _, hr⟩ := Own.reads h
 injection he with e1 _ _
 subst e1
 obtain ⟨b, off, rfl, _, hc⟩ := hr.cells hp
 refine ⟨b, off, rfl, ?_, ?_⟩
 · have := hc 0 _ (dZ hp)
   simpa using this
 · exact (h.row.lt b rfl).1
theorem NF (a b : Int) (A : Option Addr) (n c : Nat) (w : World) : (Instr.field 31 (.agg #[.int .i64 a, .int .i64 b, .slice A n c]) 2).run Try.prog w = .ok (.slice A n c) w := by
 have hu := Try.underlying31
 have hk : Try.prog.cellsOf 29 = 1 := by kernel_rfl
 simp [Instr.field, go_sem, hu, hk, asAgg]
def cu.f (kE : Bool) (bJ : Int) (bM : Int) (bD : List Int) (AB : Int) (AA : Int) (uB : List Int) (jK : Int) (jJ : Int) (jh : List Int) (a3 : Int) (a4 : Int) : Option (Int × Int × Bool) :=
 (gz.f jK jJ jh bJ bM bD).bind fun m => if 0 < m.2.2.1.length then
   ((aY.f (kE || m.2.2.2.1 || (jE a3 (m.2.2.1.getD 0 0)).2) jK jJ jh AB AA uB).bind fun b => if 0 < b.2.2.1.length then some ((jE a3 (m.2.2.1.getD 0 0)).1, (gu (b.2.2.1.getD 0 0) a4).1, b.2.2.2 || (gu (b.2.2.1.getD 0 0) a4).2) else none) else none
theorem cu.calls (g : Nat) (kE : Bool) (bJ : Int) (bM : Int) (fA : Option Addr) (fF : Nat) (bD : List Int) (AB : Int) (AA : Int) (Dk : Option Addr) (FT : Nat) (uB : List Int) (jK : Int) (jJ : Int) (ny : Option Addr) (nU : Nat) (jh : List Int) (a3 : Int) (a4 : Int) (r1 : Int) (r2 : Int) (r3 : Bool) (w0 w : World) (hI : ay w0 w g kE) (hB : Below w0.heap.size w0 w)
 (nC : Kd.C (Kd.int .i64) w fA bD.length bD) (n_ : bD.length ≤ fF) (zM : ∀ ad, fA = some ad → 0 < bD.length → ad.block ≠ g) (Le : Kd.C (Kd.int .i64) w Dk uB.length uB) (Lj : uB.length ≤ FT) (Hr : ∀ ad, Dk = some ad → 0 < uB.length → ad.block ≠ g) (zF : Kd.C (Kd.int .i64) w ny jh.length jh) (zN : jh.length ≤ nU) (zL : ∀ ad, ny = some ad → 0 < jh.length → ad.block ≠ g)
 (h : cu.f kE bJ bM bD AB AA uB jK jJ jh a3 a4 = some (r1, r2, r3)) :
 Calls Try.prog 118 #[.pointer (some ⟨g, 0, none⟩), .agg #[.int .i64 bJ, .int .i64 bM, .slice fA bD.length fF, .int .i64 AB, .int .i64 AA, .slice Dk uB.length FT], .agg #[.int .i64 jK, .int .i64 jJ, .slice ny jh.length nU], .int .i64 a3, .int .i64 a4] w fun e w' => e = .returned (.tuple #[.int .i64 r1, .int .i64 r2]) ∧ ay w0 w' g r3 ∧ Below w0.heap.size w0 w' ∧ aW w w' g none := by
 unfold cu.f at h
 obtain ⟨⟨m1, m2, lm, fm, em⟩, hm, h⟩ := Option.bind_eq_some_iff.1 h
 dsimp only at h
 split at h
 case isFalse => cases h
 rename_i hp
 obtain ⟨⟨b1, b2, lb, fb⟩, hbt, h⟩ := Option.bind_eq_some_iff.1 h
 dsimp only at h
 split at h
 case isFalse => cases h
 rename_i hp2
 simp only [Option.some.injEq, Prod.mk.injEq] at h
 obtain ⟨rfl, rfl, rfl⟩ := h
 have hgl := (zh hI).lt
 have N : Hid (Sg w g [(33, #[I bJ, I bM, .slice fA bD.length fF, I AB, I AA, .slice Dk uB.length FT]), (31, #[I jK, I jJ, .slice ny jh.length nU])] ((w.alloc (.cells #[I bJ, I bM, .slice fA bD.length fF, I AB, I AA, .slice Dk uB.length FT] 33)).alloc (.cells #[I jK, I jJ, .slice ny jh.length nU] 31))) := Lib.hid (Sg.of (((aV.none w).push (by simp) _ _).push (by simp) _ _))
 have R := Lib.hid (((zh hI).alloc (.cells #[I bJ, I bM, .slice fA bD.length fF, I AB, I AA, .slice Dk uB.length FT] 33)).alloc (.cells #[I jK, I jJ, .slice ny jh.length nU] 31))
 have HG := Lib.hid hI.2
 have HB := Lib.hid hB
 have C1 := Lib.hid n_
 have C5 := Lib.hid Lj
 have C2 := Lib.hid zN
 have T1 := Lib.hid (fun w' (h : w.grownBy w' (some g)) => Rd.touch nC h zM)
 have T5 := Lib.hid (fun w' (h : w.grownBy w' (some g)) => Rd.touch Le h Hr)
 have T2 := Lib.hid (fun w' (h : w.grownBy w' (some g)) => Rd.touch zF h zL)
 have F2 := Lib.hid zL
 have F5 := Lib.hid Hr
 have HM := Lib.hid hm
 have Zd := Lib.hid hbt
 have P1 := Lib.hid hp
 have P2 := Lib.hid hp2
 have GL := Lib.hid hgl
 clear hI hB nC n_ zM Le Lj Hr zF zN zL hm hbt hp hp2 hgl
 obtain ⟨z, hz⟩ : ∃ z, jE a3 (lm.getD 0 0) = z := ⟨_, rfl⟩
 obtain ⟨y, hy⟩ : ∃ y, gu (lb.getD 0 0) a4 = y := ⟨_, rfl⟩
 rw [hz] at Zd ⊢
 rw [hy]
 have HZ := Lib.hid hz
 have HY := Lib.hid hy
 clear hz hy
 obtain ⟨z1, z2⟩ := z
 obtain ⟨y1, y2⟩ := y
 dsimp only at Zd ⊢
 have hmf := KK.hmf
 have hfd := NF
 go_enter Try.func118, Try.ntmps118
 go_wp2_with fail
 refine (gz.calls jK jJ ny nU jh bJ bM fA fF bD m1 m2 lm fm em _ (T2.out _ N.out.gr) C2.out (T1.out _ N.out.gr) C1.out HM.out).mono ?_
 rintro e w2 ⟨v, rfl, ho, hb⟩
 obtain ⟨Am, cm, rfl, _, _⟩ := Own.reads ho
 have O := Lib.hid ho
 have N2 := Lib.hid (N.out.below hb)
 have R2 := Lib.hid (R.out.below hb R.out.lt)
 clear ho hb
 go_wp2_with fail
 refine (lT g kE fm m1 m2 em Am lm.length cm w2 R2.out).mono ?_
 rintro e w3 ⟨rfl, hr3, hg3⟩
 have O3 := Lib.hid (Own.touch O.out hg3 (by have := GL.out; simp; omega))
 have N3 := Lib.hid (N2.out.touch hg3 GL.out)
 have R3 := Lib.hid hr3
 clear hr3 hg3
 obtain ⟨bm, om, rfl, x, _⟩ := Own.first O3.out P1.out
 have hlm : (0 : Int) < lm.length := by have := P1.out; omega
 go_wp2_with fail
 refine (rX a3 (lm.getD 0 0) w3).mono ?_
 rw [HZ.out]
 rintro e w4 ⟨rfl, hb⟩
 have N4 := Lib.hid (N3.out.below hb)
 have R4 := Lib.hid (R3.out.below hb R3.out.lt)
 clear hb x
 go_wp2_with fail
 refine (qR g (kE || fm) z2 z1 w4 R4.out).mono ?_
 rintro e w5 ⟨rfl, ZA, hg5⟩
 have N5 := Lib.hid (N4.out.touch hg5 GL.out)
 have R5 := Lib.hid ZA
 clear ZA hg5
 have x0 := N5.out.r0.cell
 have x1 := N5.out.r1.cell
 go_wp2_with fail
 refine (sS w0 w5 g _ jK jJ ny nU jh AB AA Dk FT uB b1 b2 lb fb R5.out HG.out (oZ HB.out HG.out N5.out.gr) (T2.out _ N5.out.gr) C2.out F2.out (T5.out _ N5.out.gr) C5.out F5.out Zd.out).mono ?_
 rintro e w6 ⟨Ab, cb, rfl, ho, Zz, Np⟩
 have N6 := Lib.hid (N5.out.touch Np GL.out)
 have R6 := Lib.hid Zz
 obtain ⟨bb, ob, rfl, x, _⟩ := Own.first ho P2.out
 have hlb : (0 : Int) < lb.length := by have := P2.out; omega
 clear Zz Np ho x0 x1 hlm
 go_wp2_with fail
 refine (pM (lb.getD 0 0) a4 w6).mono ?_
 rw [HY.out]
 rintro e w7 ⟨rfl, hb⟩
 have N7 := Lib.hid (N6.out.below hb)
 have R7 := Lib.hid (R6.out.below hb R6.out.lt)
 clear hb x
 go_wp2_with fail
 refine (qR g fb y2 y1 w7 R7.out).mono ?_
 rintro e w8 ⟨rfl, Zx, ZW⟩
 have N8 := Lib.hid (N7.out.touch ZW GL.out)
 have R8 := Lib.hid Zx
 clear Zx ZW
 go_wp2
 go_ret2
 exact ⟨rfl, ⟨R8.out, HG.out⟩, oZ HB.out HG.out N8.out.gr, Js N8.out.gr⟩
end Go.Proofs.Ytnijhjbcjeohhaa.PR

namespace Go.Proofs.Ytnijhjbcjeohhaa.PR
open Go.RowKit Go.Proofs.Ytnijhjbcjeohhaa.PQ Go.Proofs.af.aF Go.Proofs.af.aP Go.Proofs.af.aQ Go.Proofs.Ytnijhjbcjeohhaa.KK
set_option linter.unusedVariables false
set_option linter.unusedSimpArgs false
theorem Fv (a b : Int) (w : World) : Calls Try.prog 93 #[I a, I b] w fun e w' => e = .returned (.tuple #[I (xy a b).1, .bool (xy a b).2]) ∧ Below w.heap.size w w' := by
 obtain ⟨k, hk⟩ := QG a b
 exact kL.calls k a b _ _ w (hk k (Nat.le_refl _))
def qB (n : Nat) (L : List Int) : Nat → List Int
 | 0 => L
 | j + 1 => (qB n L j).set (j * n + j) (mx (rd (qB n L j) (((j * n + j : Nat)) : Int)) 0)
def qZ (n : Nat) (l : List Int) : List Int := qB n (xx n l) n
theorem qi (n : Nat) (L : List Int) (j : Nat) : (qB n L j).length = L.length := by
 induction j with
 | zero => rfl
 | succ j ih => simp only [qB, List.length_set, ih]
theorem rC (n : Nat) (l : List Int) : (xx n l).length = n * n := upto_length
theorem Ff (n : Nat) (L : List Int) (hn : n ≤ 8) (hL : L.length = n * n) : ∀ (d j : Nat), j + d = n → aZ.l0 (d + 1) n j n n (qB n L j) = some ((n : Int), (n : Int), qB n L n) := by
 intro d
 induction d with
 | zero =>
   intro j hj
   obtain rfl : j = n := by omega
   unfold aZ.l0
   rw [if_neg (by omega)]
 | succ d ih =>
   intro j hj
   have hlt := jR (r := n) (c := n) (i := j) (k := j) (by omega) (by omega)
   have hle : n * n ≤ 8 * 8 := Nat.mul_le_mul hn hn
   have e1 : (j : Int) * (n : Int) = ((j * n : Nat) : Int) := by push_cast; rfl
   have e2 : wrap64 ((j : Int) * (n : Int)) = ((j * n : Nat) : Int) := by rw [e1]; exact Gm (by omega) (by omega)
   have e3 : wrap64 (((j * n : Nat) : Int) + (j : Int)) = ((j * n + j : Nat) : Int) := by rw [Gm (by omega) (by omega)]; push_cast; rfl
   have e4 : wrap64 ((j : Int) + 1) = ((j + 1 : Nat) : Int) := by rw [Gm (by omega) (by omega)]; push_cast; rfl
   unfold aZ.l0
   rw [if_pos (by omega), e2, e3, if_pos (by omega), if_pos (by rw [qi, hL]; omega), e4, Int.toNat_natCast]
   exact ih (j + 1) (by omega)
theorem Fe (n : Nat) (l : List Int) (hn : n ≤ 8) (hl : l.length = n * n) : aZ.f (n + 1) n n l = some ((n : Int), (n : Int), qZ n l) := by
 have e1 : (l.length : Int) = (n : Int) * (n : Int) := by rw [hl]; push_cast; rfl
 unfold aZ.f lS.f
 rw [if_pos ⟨rfl, by omega, by omega, by omega, by omega, e1⟩]
 simp only [Option.bind_some, Int.toNat_natCast]
 exact Ff n (xx n l) hn (rC n l) n 0 (by omega)
theorem vV (n : Nat) (A : Option Addr) (c : Nat) (l : List Int) (w : World) (hn : n ≤ 8) (hl : l.length = n * n) (hA : Rd w A l) (hc : l.length ≤ c) :
 Calls Try.prog 104 #[.agg #[I n, I n, .slice A l.length c]] w fun e w' => ∃ A2 c2, e = .returned (.agg #[I n, I n, .slice A2 (qZ n l).length c2]) ∧ Own w' w.heap.size (.slice A2 (qZ n l).length c2) (qZ n l) ∧ Below w.heap.size w w' := by
 refine (aZ.calls (n + 1) n n A c l _ _ _ w hA hc (Fe n l hn hl)).mono ?_
 rintro e w' ⟨v, rfl, ho, hb⟩
 obtain ⟨A2, c2, rfl, _, _⟩ := Own.reads ho
 exact ⟨A2, c2, rfl, ho, hb⟩
def gm (r n : Nat) (a p : List Int) : List Int := mulL r n r (mulL r n n a p) (qJ r n a)
def kR (r n : Nat) (a p : List Int) : Bool := nR r n n a p || nR r n r (mulL r n n a p) (qJ r n a)
theorem iQ (r c1 c2 : Nat) (l m : List Int) : (mulL r c1 c2 l m).length = r * c2 := upto_length
theorem shape {r c : Nat} {l : List Int} (hr : r ≤ 8) (hc : c ≤ 8) (hl : l.length = r * c) : 0 ≤ (r : Int) ∧ (r : Int) ≤ 8 ∧ 0 ≤ (c : Int) ∧ (c : Int) ≤ 8 ∧ (l.length : Int) = (r : Int) * (c : Int) :=
 ⟨by omega, by omega, by omega, by omega, by rw [hl]; push_cast; rfl⟩
theorem vP {r c1 c2 : Nat} {l m : List Int} (hr : r ≤ 8) (h1 : c1 ≤ 8) (h2 : c2 ≤ 8) (hl : l.length = r * c1) (hm : m.length = c1 * c2) : gz.f r c1 l c1 c2 m = some ((r : Int), (c2 : Int), mulL r c1 c2 l m, nR r c1 c2 l m, 0) := by
 unfold gz.f
 rw [if_pos rfl, if_pos ⟨shape hr h1 hl, shape h1 h2 hm⟩]
 simp only [Int.toNat_natCast]
theorem Bl {r c : Nat} {l : List Int} (hr : r ≤ 8) (hc : c ≤ 8) (hl : l.length = r * c) : iE.f r c l = some ((c : Int), (r : Int), qJ r c l) := by
 unfold iE.f
 rw [if_pos (shape hr hc hl)]
 simp only [Int.toNat_natCast]
theorem xX (s : Bool) (a b : Int) (l : List Int) (o : Bool) (e : Int) : bT.f s a b l o e = some (a, b, l, s || o) := by
 unfold bT.f
 cases s <;> simp
theorem nX (s : Bool) (r n : Nat) (a p : List Int) (hr : r ≤ 8) (hn : n ≤ 8) (ha : a.length = r * n) (hp : p.length = n * n) :
 aY.f s r n a n n p = some ((r : Int), (r : Int), gm r n a p, s || kR r n a p) := by
 unfold aY.f
 simp only [vP hr hn hn ha hp, Option.bind_some, xX, Bl hr hn ha, vP hr hn hr (iQ _ _ _ _ _) (lK r n a)]
 simp [gm, kR, Bool.or_assoc]
theorem m_ {w w' : World} {r : Option Nat} (h : w.grownBy w' r) {p : Addr} (hp : w.heap.size ≤ p.block) (u : Value) : w.grownBy (w'.setCell p u) r :=
 ⟨h.os, h.tape, h.output, by simpa using h.size, fun k hk hne => (Below.heap_setCell w' p u k (by omega)).trans (h.block k hk hne)⟩
theorem qY {w w' : World} {r : Option Nat} (h : w.grownBy w' r) {C : Nat} (hp : w.heap.size ≤ C) (a b c : Value) : w.grownBy (bz w' C a b c) r :=
 m_ (m_ (m_ h (p := ⟨C, 0, none⟩) hp a) (p := ⟨C, 1, none⟩) hp b) (p := ⟨C, 2, none⟩) hp c
theorem qM (g kb pb n : Nat) (s : Bool) (A : Option Addr) (cp : Nat) (k : List Int) (q : Int) (w : World) (hn : n ≤ 8) (hk : k.length = n * 1) (hA : Rd w A k) (hcp : k.length ≤ cp)
 (Rk : Row w kb 31 #[I n, I 1, .slice A k.length cp]) (Rp : Row w pb 156 #[.pointer (some ⟨g, 0, none⟩)]) (R : Row w g 158 #[.bool s]) :
 Calls Try.prog 124 #[I q, .pointer (some ⟨kb, 0, none⟩), .pointer (some ⟨pb, 0, none⟩)] w fun e w' => ∃ A2 c2, e = .returned (.agg #[I n, I 1, .slice A2 (jk n 1 k q).length c2]) ∧ Own w' w.heap.size (.slice A2 (jk n 1 k q).length c2) (jk n 1 k q) ∧ Row w' g 158 #[.bool (s || scaleB n 1 k q)] ∧ w.grownBy w' (some g) := by
 have hgl := R.lt
 have N : Hid (Sg w g [(31, #[I 0, I 0, .slice none 0 0])] (w.alloc (.cells #[I 0, I 0, .slice none 0 0] 31))) := Lib.hid (Sg.of ((aV.none w).push (by simp) _ _))
 have HS := Lib.hid (ES n 1 A cp k q _ hn (by omega) hk (hA.below ((Below.refl _ _).alloc (Nat.le_refl _) (.cells #[I 0, I 0, .slice none 0 0] 31))) hcp)
 have x0 := (Rk.alloc (.cells #[I 0, I 0, .slice none 0 0] 31)).cell
 have RP := Lib.hid (Rp.alloc (.cells #[I 0, I 0, .slice none 0 0] 31))
 have RG := Lib.hid (R.alloc (.cells #[I 0, I 0, .slice none 0 0] 31))
 have GL := Lib.hid hgl
 obtain ⟨L, hL⟩ : ∃ L, jk n 1 k q = L := ⟨_, rfl⟩
 obtain ⟨b, hb⟩ : ∃ b, scaleB n 1 k q = b := ⟨_, rfl⟩
 rw [hL, hb] at HS ⊢
 clear hn hk hA hcp Rk Rp R hgl hL hb
 go_enter Try.func124, Try.ntmps124
 go_wp2_with fail
 refine HS.out.mono ?_
 rintro e w2 ⟨v, rfl, ho, hb⟩
 obtain ⟨A2, c2, rfl, _, _⟩ := Own.reads ho
 have O := Lib.hid ho
 have N2 := Lib.hid ((N.out.below hb).alloc (.cells #[I n, I 1, .slice A2 L.length c2] 31))
 have RP2 := Lib.hid (RP.out.below hb RP.out.lt)
 have PK := Lib.hid ((RG.out.below hb RG.out.lt).alloc (.cells #[I n, I 1, .slice A2 L.length c2] 31))
 clear ho hb x0
 have x1 := RP2.out.cell
 have x2 := RP2.out.lt
 go_wp2_with fail
 refine (lT g s b n 1 0 A2 L.length c2 _ PK.out).mono ?_
 rintro e w3 ⟨rfl, hr3, hg3⟩
 have O3 := Lib.hid (Own.touch (O.out.alloc _) hg3 (by have := GL.out; simp; omega))
 have N3 := Lib.hid (N2.out.touch hg3 GL.out)
 have R3 := Lib.hid hr3
 clear hr3 hg3 x1 x2
 have x1 := N3.out.r0.cell
 have g1 := N3.out.r0.free
 go_wp2
 refine bodyPost_ret (Ji rfl rfl (N3.out.r0.bz _ _ _)) rfl ⟨_, _, rfl, ?_, R3.out.mF (by have := GL.out; omega), qY N3.out.gr (Nat.le_refl _) _ _ _⟩
 exact (O3.out.bz (by simp) _ _ _).lower (by simp)
end Go.Proofs.Ytnijhjbcjeohhaa.PR

namespace Go.Proofs.Ytnijhjbcjeohhaa.KK
open Go.RowKit
set_option linter.unusedVariables false
set_option linter.unusedSimpArgs false
section
variable {P : Program} {md : Region.Mode} {ops : Array Oper} {Q : Exit → Act → World → Prop} {S : World → Prop} {m : Nat}
def Until (P : Program) (md : Region.Mode) (ops : Array Oper) (Q : Exit → Act → World → Prop) (S : World → Prop) (m : Nat) : Nat → Array Bool → Act → World → Prop
 | 0, L, a, w => Region.ready md ops L = [] ∧ Q .normal a w
 | f + 1, L, a, w => (Region.ready md ops L = [] → Q .normal a w) ∧
     ∀ i ∈ Region.ready md ops L, wpOp P ops Q i (fun a' w' => ((L.setIfInBounds i true).getD m true = false → S w') ∧ Until P md ops Q S m f (L.setIfInBounds i true) a' w') a w
theorem Until.any : ∀ (f : Nat) (L : Array Bool) (a : Act) (w : World), Until P md ops Q S m f L a w → wpAny P md ops Q f L a w
 | 0, _, _, _, h => h
 | f + 1, _, _, _, h => ⟨h.1, fun i hi => wpOp_mono (fun a' w' h' => Until.any f _ a' w' h'.2) (h.2 i hi)⟩
def waits (md : Region.Mode) (ops : Array Oper) (m i : Nat) : Bool := match ops[m]? with | some o => o.after.any fun e => Region.binds md e && e.on == i | none => false
theorem Bi {i : Nat} (h : waits md ops m i = true) : ∃ o e, ops[m]? = some o ∧ e ∈ o.after ∧ Region.binds md e = true ∧ e.on = i := by
 unfold waits at h
 cases ho : ops[m]? with
 | none => rw [ho] at h; cases h
 | some o =>
   rw [ho] at h
   simp only [Array.any_eq_true'] at h
   obtain ⟨e, he, hb⟩ := h
   simp only [Bool.and_eq_true, beq_iff_eq] at hb
   exact ⟨o, e, rfl, he, hb.1, hb.2⟩
theorem tH {i j : Nat} {L : Array Bool} (hi : i ∈ Region.ready md ops L) (hj : j ∈ Region.ready md ops L) : ∃ o, ops[j]? = some o ∧ ∀ e ∈ o.after, Region.binds md e = true → e.on ≠ i := by
 obtain ⟨_, o, ho, hall⟩ := mem_ready.1 hj
 refine ⟨o, ho, fun e he hb heq => ?_⟩
 have h1 := hall e he hb
 have h0 := (mem_ready.1 hi).1
 rw [heq] at h1
 by_cases hs : i < L.size
 · rw [Array.getD_eq_getD_getElem?, Array.getElem?_eq_getElem hs] at h0 h1
   simp at h0 h1
   rw [h0] at h1
   cases h1
 · rw [Array.getD_eq_getD_getElem?, Array.getElem?_eq_none (by omega)] at h1
   simp at h1
theorem Until.first {i : Nat} {oi : Oper} {v : Value} (hi : ops[i]? = some oi) (hs : Region.noSelect ops = true) (hQ : ∀ c a w, Q (.panic c) (a.put oi.dst v) w → Q (.panic c) a w) (hm : waits md ops m i = true) :
 ∀ (f : Nat) (L : Array Bool) (a : Act) (w : World),
   (∀ j oj, ops[j]? = some oj → j ≠ i → L.getD j true = false → (∀ e ∈ oj.after, Region.binds md e = true → e.on ≠ i) → oi.apart ops oj = true) →
   i ∈ Region.ready md ops L → L.getD m true = false → YieldsIf P ops S oi v a → S w →
   Until P md ops Q S m f (L.setIfInBounds i true) (a.put oi.dst v) w → Until P md ops Q S m (f + 1) L a w := by
 obtain ⟨om, em, ZE, hem, hbm, Qm⟩ := Bi hm
 intro f
 induction f with
 | zero =>
   intro L a w hf hr hu hy hS H
   refine ⟨fun h => (by rw [h] at hr; cases hr), fun j hj => ?_⟩
   by_cases hji : j = i
   · subst hji; exact hy.wpOp hi hS ⟨fun _ => hS, H⟩
   · have h := ready_mono hj hji
     rw [H.1] at h
     cases h
 | succ f ih =>
   intro L a w hf hr hu hy hS H
   refine ⟨fun h => (by rw [h] at hr; cases hr), fun j hj => ?_⟩
   by_cases hji : j = i
   · subst hji; exact hy.wpOp hi hS ⟨fun _ => hS, H⟩
   · obtain ⟨oj, hoj, hno⟩ := tH hr hj
     have hjm : j ≠ m := fun e => by
      subst e
      rw [ZE] at hoj
      injection hoj with hoj
      subst hoj
      exact hno em hem hbm Qm
     have him : i ≠ m := fun e => by
      subst e
      obtain ⟨o', ho', hn'⟩ := tH hr hr
      rw [ZE] at ho'
      injection ho' with ho'
      subst ho'
      exact hn' em hem hbm Qm
     have hun := (mem_ready.1 hj).1
     have h2 := wpOp_putIf hoj (hf j oj hoj hji hun hno) (fun cs b => Region.noSelect_spec hs i oi cs b hi) (fun cs b => Region.noSelect_spec hs j oj cs b hoj) hQ hy (H.2 j (ready_mono hj hji))
     refine wpOp_mono (fun a' w' h3 => ?_) h2
     obtain ⟨hy', hS', H'⟩ := h3
     have hu' : (L.setIfInBounds j true).getD m true = false := by rw [getD_set_ne true hjm]; exact hu
     have hSw : S w' := hS' (by rw [getD_set_ne true hjm, getD_set_ne true him]; exact hu)
     refine ⟨fun _ => hSw, ih _ a' w' ?_ (ready_mono hr (Ne.symm hji)) hu' hy' hSw ?_⟩
     · intro k ok hk hki ZQ hkn
       refine hf k ok hk hki ?_ hkn
       by_cases hjk : j = k
       · subst hjk; exact hun
       · rw [getD_set_ne true hjk] at ZQ; exact ZQ
     · rw [Array.setIfInBounds_comm _ _ hji]
       exact H'
theorem Until.take {i : Nat} {oi : Oper} {v : Value} {f : Nat} {L : Array Bool} {a : Act} {w : World} (hi : ops[i]? = some oi)
 (hs : Region.noSelect ops = true) (hf : Region.free md ops L i = true) (hr : (Region.ready md ops L).contains i = true) (hm : waits md ops m i = true) (hu : L.getD m true = false)
 (hQ : ∀ c a w, Q (.panic c) (a.put oi.dst v) w → Q (.panic c) a w) (hy : YieldsIf P ops S oi v a) (hS : S w)
 (h : Until P md ops Q S m f (L.setIfInBounds i true) (a.put oi.dst v) w) : Until P md ops Q S m (f + 1) L a w :=
 Until.first hi hs hQ hm f L a w (Region.free_spec hi hf) (by simpa using hr) hu hy hS h
theorem Until.one {i : Nat} {o : Oper} {f : Nat} {L : Array Bool} {a : Act} {w : World} (hr : Region.ready md ops L = [i]) (ho : ops[i]? = some o)
 (h : ∀ K' : Act → World → Prop, Shut (∀ a w, ((L.setIfInBounds i true).getD m true = false → S w) → Until P md ops Q S m f (L.setIfInBounds i true) a w → K' a w) → if Region.wanted o (yielded ops a.tmps) = true then Oper.wp P o a w K' Q else K' (a.put o.dst undef) w) :
 Until P md ops Q S m (f + 1) L a w := by
 refine ⟨fun h0 => (by rw [hr] at h0; cases h0), fun j hj => ?_⟩
 rw [hr] at hj
 obtain rfl := List.mem_singleton.1 hj
 have h1 := h (fun a' w' => ((L.setIfInBounds j true).getD m true = false → S w') ∧ Until P md ops Q S m f (L.setIfInBounds j true) a' w') (fun a w hS hU => ⟨hS, hU⟩)
 unfold wpOp
 simp only [ho]
 split
 · rename_i hw
   rw [if_pos hw] at h1
   exact .inl h1
 · rename_i hw
   rw [if_neg hw] at h1
   exact h1
theorem Until.done {L : Array Bool} {a : Act} {w : World} (hr : Region.ready md ops L = []) (h : Q .normal a w) : ∀ f, Until P md ops Q S m f L a w
 | 0 => ⟨hr, h⟩
 | _ + 1 => ⟨fun _ => h, by rw [hr]; simp⟩
theorem qO {id : Nat} {a : Act} {w : World} (S : World → Prop) (m : Nat) (hm : P.follows .mixedOrders = true) (hS : S w.drew) (h : S w.drew → Until P .any ops (NoPanic Q) S m ops.size (Array.replicate ops.size false) a w.drew) : (Code.region id ops true).wp P Q a w :=
 wp_region_noPanic (wp_region_any hm (Until.any _ _ _ _ (h hS)))
end
end Go.Proofs.Ytnijhjbcjeohhaa.KK

