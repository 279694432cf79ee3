import Derived.Test.YtnijhjbcjeohhaaV5
/- Joined and thinned by a program of this session's own (wip/pack2.py) out of its texts (wip/ of its repo); parts were laid by its own program (wip/print-patch.py over the kit's print) out of the translation; Lean checks all. -/
set_option maxRecDepth 100000
set_option maxHeartbeats 8000000
namespace Go.Proofs.Ytnijhjbcjeohhaa.PR
open Go.RowKit Go.Proofs.Ytnijhjbcjeohhaa.PQ Go.Proofs.af.aA Go.Proofs.af.aN Go.Proofs.af.aP
attribute [local go_sem] gz gu jc iZ fD fC gy gq
set_option linter.unusedVariables false
set_option linter.unusedSimpArgs false
def bf.l0 : Nat → Int → Int → Int → Int → List Int → Option (Int × Int × List Int)
 | 0, _, _, _, _, _ => none
 | k + 1, x14, x15, IX, sO, yj => if x15 < x14 then (if 0 ≤ (wrap64 ((wrap64 (x15 * sO)) + x15)) then (if (wrap64 ((wrap64 (x15 * sO)) + x15)) < (yj.length : Int) then (bf.l0 k x14 (wrap64 (x15 + 1)) IX sO (yj.set ((wrap64 ((wrap64 (x15 * sO)) + x15)) : Int).toNat (mx (rd yj (wrap64 ((wrap64 (x15 * sO)) + x15))) 0))) else (none)) else (none)) else (some (IX, sO, yj))
def bf.f (k : Nat) (bI : Int) (bQ : Int) (bP : List Int) : Option (Int × Int × List Int) := (nY.f bI bQ bP).bind fun vV => (bf.l0 k vV.1 0 vV.1 vV.2.1 vV.2.2.1)
def bf.T5 : Bool × List (List Nat × List Nat) := (true, [([], []), ([0], [0]), ([], []), ([], []), ([3], [3]), ([2, 4], [2, 4]), ([], []), ([5, 6], [5, 6]), ([], []), ([8], [8]), ([], []), ([], []), ([11], [11]), ([10, 12], [10, 12]), ([], []), ([13, 14], [13, 14]), ([9, 15], [9, 15]), ([16], [16]), ([17], [17]), ([1, 7, 0, 1, 2, 3, 4, 5, 6, 7, 8, 9, 10, 11, 12, 13, 14, 15, 16, 17, 18], [1, 7]), ([19, 18, 0, 1, 2, 3, 4, 5, 6, 7, 8, 9, 10, 11, 12, 13, 14, 15, 16, 17, 18], [18, 19])])
def bf.B5 : List Nat := [0, 1, 0, 0, 8, 28, 0, 124, 0, 256, 0, 0, 2048, 7168, 0, 31744, 65280, 130816, 261888, 524287, 1048575]
theorem bf.abO : nU .any (opsOf Try.f104 5) = bf.T5 := by kernel_rfl
theorem bf.YH : qA bf.T5.2 bf.B5 = true := by kernel_rfl
theorem bf.calls (k : Nat) (bI : Int) (bQ : Int) (dV : Option Addr) (dU : Nat) (bP : List Int) (r1 : Int) (r2 : Int) (r3 : List Int) (w : World) (mG : Kd.C (Kd.int .i64) w dV bP.length bP) (oq : bP.length ≤ dU) (h : bf.f k bI bQ bP = some (r1, r2, r3)) :
 Calls Try.prog 104 #[.agg #[.int .i64 bI, .int .i64 bQ, .slice dV bP.length dU]] w fun e w' => ∃ D_ : Value, e = .returned (.agg #[.int .i64 r1, .int .i64 r2, D_]) ∧ Kd.R (Kd.int .i64) 22 w' w.heap.size (fun _ => True) D_ r3 ∧ Below w.heap.size w w' := by
 have NF := Try.underlying31
 have zQ := aj.mk mG
 have zT := aj.mk oq
 clear mG oq
 have HB := aj.mk (Below.refl w.heap.size w)
 have H : ((nY.f bI bQ bP).bind fun vV => (bf.l0 k vV.1 0 vV.1 vV.2.1 vV.2.2.1)) = some (r1, r2, r3) := h
 clear h
 replace H := Option.bind_eq_some_iff.mp H
 obtain ⟨⟨t139, t140, t141, t144, t145⟩, A20, H⟩ := H
 replace H : (bf.l0 k t139 0 t139 t140 t141) = some (r1, r2, r3) := H
 have A2 := aj.mk A20
 clear A20
 have H' := aj.mk H
 clear H
 go_enter Try.func104, Try.ntmps104
 go_wp2_with (first | ((with_reducible refine dW (N := 1) rfl ?_); refine dO ?hg (N := 1) ?hd (cs := #[.int .i64 bI, .int .i64 bQ, .slice dV bP.length dU]) (t := 31) ?hr ?_; (case hd => rfl); (case hg => rfl); (case hr => first | (go_simp; done) | (go_simp; rfl)); intro mJ hg w3 hbox hb; have bu := aj.mk (aQ (by repeat (first | (with_reducible first | exact HB.out | apply ak | apply ah | apply au) | exact HB.out)) hb); have fH := aj.mk (hbox); have fG := aj.mk ((by rw [hg]; exact (bD (by repeat (first | (with_reducible first | exact HB.out | apply ak | apply ah | apply au) | exact HB.out))) : w.heap.size ≤ mJ)); have iG := aj.mk ((by rw [hg]; exact (bD (by repeat (first | (with_reducible first | exact HB.out | apply ak | apply ah | apply au) | exact HB.out))) : w.heap.size ≤ mJ)); clear HB; have HB := bu; have iC := fH; have agw := fG; have sK := iG; clear bu fH fG iG; clear hb hbox hg) | ((with_reducible refine dW (N := 2) rfl ?_); refine dO ?hg (N := 2) ?hd (cs := #[.int .i64 0, .int .i64 0, .slice none 0 0]) (t := 31) ?hr ?_; (case hd => rfl); (case hg => rfl); (case hr => first | (go_simp; done) | (go_simp; rfl)); intro lg hg w4 hbox hb; have bu := aj.mk (bM (g := mJ) (o := .cells #[.int .i64 bI, .int .i64 bQ, .slice dV bP.length dU] 31 (0, 0)) (by (with_reducible repeat (first | refine aF ?_ _ | refine aK ?_ | refine aG ?_ _)); exact iC.out) hb); have fH := aj.mk (aQ (by repeat (first | (with_reducible first | exact HB.out | apply ak | apply ah | apply au | refine aB ?_ sK.out) | exact HB.out)) hb); have fG := aj.mk (hbox); have iG := aj.mk ((by rw [hg]; exact (bD (by repeat (first | (with_reducible first | exact HB.out | apply ak | apply ah | apply au | refine aB ?_ sK.out) | exact HB.out))) : w.heap.size ≤ lg)); have kQ := aj.mk ((by rw [hg]; exact (bD (by repeat (first | (with_reducible first | exact HB.out | apply ak | apply ah | apply au | refine aB ?_ sK.out) | exact HB.out))) : w.heap.size ≤ lg)); have kZ := aj.mk ((by rw [hg]; exact Nat.ne_of_lt (d_ (g := mJ) (o := .cells #[.int .i64 bI, .int .i64 bQ, .slice dV bP.length dU] 31 (0, 0)) (by (with_reducible repeat (first | refine aF ?_ _ | refine aK ?_ | refine aG ?_ _)); exact iC.out)) : mJ ≠ lg)); have mF := aj.mk ((by rw [hg]; exact Nat.ne_of_gt (d_ (g := mJ) (o := .cells #[.int .i64 bI, .int .i64 bQ, .slice dV bP.length dU] 31 (0, 0)) (by (with_reducible repeat (first | refine aF ?_ _ | refine aK ?_ | refine aG ?_ _)); exact iC.out)) : lg ≠ mJ)); clear iC; clear HB; have iC := bu; have HB := fH; have ji := fG; have agv := iG; have xM := kQ; have Cj := kZ; have Ci := mF; clear bu fH fG iG kQ kZ mF; clear hb hbox hg; have ahl := Cj.out; have ahh := Ci.out; have Oa : w4.cell? ⟨mJ, 0, none⟩ = some (.int .i64 bI) := (aC iC.out 0).trans rfl; have N_ : w4.cell? ⟨mJ, 1, none⟩ = some (.int .i64 bQ) := (aC iC.out 1).trans rfl; have Vt : w4.cell? ⟨mJ, 2, none⟩ = some (.slice dV bP.length dU) := (aC iC.out 2).trans rfl; have NM := aU iC.out 0; have NL := aU iC.out 1; have Vf := aU iC.out 2) | ((with_reducible refine az (f := 116) rfl ?_); refine aT (some 9) rfl rfl Try.func116 (by kernel_rfl) rfl #[.agg #[.int .i64 bI, .int .i64 bQ, .slice dV bP.length dU]] rfl (by (try simp only [List.map_toArray, List.map_cons, List.map_nil]); first | done | rfl | (simp only [List.length_drop, List.length_take]; rfl)) ?_; (with_reducible refine (nY.calls bI bQ _ _ bP t139 t140 t141 t144 t145 _ ?jT ?jS A2.out).mono ?_); (case jT => repeat (first | exact (Kd.jZ zQ.out HB.out) | (with_reducible refine Kd.nN ?_ _) | (with_reducible refine Kd.nM ?_ _) | (with_reducible refine Kd.qL ?_))); (case jS => exact zT.out); rintro e w7 ⟨agR, rfl, ho0, hb⟩; refine ⟨_, rfl, ?_⟩; have bu := aj.mk (Kd.nI ho0 (bD (by repeat (first | (with_reducible first | exact HB.out | apply ak | apply ah | apply au | refine aB ?_ sK.out | refine aB ?_ xM.out) | exact HB.out)))); have fH := aj.mk (bM (g := mJ) (o := .cells #[.int .i64 bI, .int .i64 bQ, .slice dV bP.length dU] 31 (0, 0)) (by (with_reducible repeat (first | refine aF ?_ _ | refine aK ?_ | refine aG ?_ _)); exact iC.out) hb); have fG := aj.mk (bM (g := lg) (o := .cells #[.int .i64 0, .int .i64 0, .slice none 0 0] 31 (0, 0)) (by (with_reducible repeat (first | refine aF ?_ _ | refine aK ?_ | refine aG ?_ _)); exact ji.out) hb); have iG := aj.mk (aQ (by repeat (first | (with_reducible first | exact HB.out | apply ak | apply ah | apply au | refine aB ?_ sK.out | refine aB ?_ xM.out) | exact HB.out)) hb); clear iC; clear ji; clear HB; have Gp := bu; have iC := fH; have ji := fG; have HB := iG; clear bu fH fG iG; (try clear hb); (try clear hb2); (try clear hk); (try clear hi); (try clear ho0)) | ((with_reducible refine dW (N := 3) rfl ?_); refine dO ?hg (N := 3) ?hd (cs := #[.int .i64 0, .int .i64 0, .slice none 0 0]) (t := 31) ?hr ?_; (case hd => rfl); (case hg => rfl); (case hr => first | (go_simp; done) | (go_simp; rfl)); intro kU hg w8 hbox hb; have bu := aj.mk (Kd.nJ (by (with_reducible repeat (first | apply Kd.fA | apply Kd.eY | apply Kd.fU)); exact Gp.out) hb); have fH := aj.mk (bM (g := mJ) (o := .cells #[.int .i64 bI, .int .i64 bQ, .slice dV bP.length dU] 31 (0, 0)) (by (with_reducible repeat (first | refine aF ?_ _ | refine aK ?_ | refine aG ?_ _)); exact iC.out) hb); have fG := aj.mk (bM (g := lg) (o := .cells #[.int .i64 0, .int .i64 0, .slice none 0 0] 31 (0, 0)) (by (with_reducible repeat (first | refine aF ?_ _ | refine aK ?_ | refine aG ?_ _)); exact ji.out) hb); have iG := aj.mk (aQ (by repeat (first | (with_reducible first | exact HB.out | apply ak | apply ah | apply au | refine aB ?_ sK.out | refine aB ?_ xM.out) | exact HB.out)) hb); have kQ := aj.mk (hbox); have kZ := aj.mk ((by rw [hg]; exact (bD (by repeat (first | (with_reducible first | exact HB.out | apply ak | apply ah | apply au | refine aB ?_ sK.out | refine aB ?_ xM.out) | exact HB.out))) : w.heap.size ≤ kU)); have mF := aj.mk ((by rw [hg]; exact (bD (by repeat (first | (with_reducible first | exact HB.out | apply ak | apply ah | apply au | refine aB ?_ sK.out | refine aB ?_ xM.out) | exact HB.out))) : w.heap.size ≤ kU)); have uj := aj.mk ((by rw [hg]; exact Nat.ne_of_lt (d_ (g := mJ) (o := .cells #[.int .i64 bI, .int .i64 bQ, .slice dV bP.length dU] 31 (0, 0)) (by (with_reducible repeat (first | refine aF ?_ _ | refine aK ?_ | refine aG ?_ _)); exact iC.out)) : mJ ≠ kU)); have xu := aj.mk ((by rw [hg]; exact Nat.ne_of_gt (d_ (g := mJ) (o := .cells #[.int .i64 bI, .int .i64 bQ, .slice dV bP.length dU] 31 (0, 0)) (by (with_reducible repeat (first | refine aF ?_ _ | refine aK ?_ | refine aG ?_ _)); exact iC.out)) : kU ≠ mJ)); have Je := aj.mk ((by rw [hg]; exact Nat.ne_of_lt (d_ (g := lg) (o := .cells #[.int .i64 0, .int .i64 0, .slice none 0 0] 31 (0, 0)) (by (with_reducible repeat (first | refine aF ?_ _ | refine aK ?_ | refine aG ?_ _)); exact ji.out)) : lg ≠ kU)); have vG := aj.mk ((by rw [hg]; exact Nat.ne_of_gt (d_ (g := lg) (o := .cells #[.int .i64 0, .int .i64 0, .slice none 0 0] 31 (0, 0)) (by (with_reducible repeat (first | refine aF ?_ _ | refine aK ?_ | refine aG ?_ _)); exact ji.out)) : kU ≠ lg)); clear Gp; clear iC; clear ji; clear HB; have Gp := bu; have iC := fH; have ji := fG; have HB := iG; have jh := kQ; have agu := kZ; have PM := mF; have qx := uj; have Ce := xu; have qw := Je; have Cc := vG; clear bu fH fG iG kQ kZ mF uj xu Je vG; clear hb hbox hg; have ahj := Ce.out; have ahf := qx.out; have Yg := Cc.out; have Yd := qw.out; have QO : w8.cell? ⟨kU, 0, none⟩ = some (.int .i64 0) := (aC jh.out 0).trans rfl; have QN : w8.cell? ⟨kU, 1, none⟩ = some (.int .i64 0) := (aC jh.out 1).trans rfl; have QM : w8.cell? ⟨kU, 2, none⟩ = some (.slice none 0 0) := (aC jh.out 2).trans rfl; have QD := aU jh.out 0; have Qz := aU jh.out 1; have Qy := aU jh.out 2; obtain ⟨WV, VP, VH⟩ := Kd.jg Gp.out; subst VH))
 go_loopg [15] k (fun kq v15 w' => ∃ (g_ : Int) (dN : List Int) (yt : Value), v15 = .int .i64 g_ ∧ aj (bf.l0 kq t139 g_ t139 t140 dN = some (r1, r2, r3)) ∧ aj (kq ≤ k) ∧ aj (Kd.R (Kd.int .i64) 22 w' w.heap.size (fun _ => True) yt dN) ∧ aj (w'.heap[mJ]? = some (.cells #[.int .i64 bI, .int .i64 bQ, (.slice dV bP.length dU)] 31 (0, 0))) ∧ aj (w'.heap[lg]? = some (.cells #[.int .i64 0, .int .i64 0, (.slice none 0 0)] 31 (0, 0))) ∧ aj (w'.heap[kU]? = some (.cells #[.int .i64 t139, .int .i64 t140, yt] 31 (0, 0))) ∧ aj (Below w.heap.size w w'))
 case atStart => exact ⟨(0), (t141), (.slice WV t141.length VP), (by first | rfl | (simp; done) | (simp [*]; done)), H', ⟨Nat.le_refl _⟩, ⟨by (with_reducible repeat (first | apply Kd.fA | apply Kd.eY | apply Kd.fU)); exact Kd.jO (Kd.mP (p := ⟨kU, 2, none⟩) (Kd.mP (p := ⟨kU, 1, none⟩) (Kd.mP (p := ⟨kU, 0, none⟩) (Kd.tH Gp.out jh.out (by decide)) (fun _ hk => hk.2) (.int .i64 t139)) (fun _ hk => hk.2) (.int .i64 t140)) (fun _ hk => hk.2) (.slice WV t141.length VP)) (fun _ hk => trivial)⟩, ⟨by (with_reducible repeat (first | refine aF ?_ _ | refine aK ?_ | refine aG ?_ _)); refine jW ?_ qx.out _; (with_reducible repeat (first | refine aF ?_ _ | refine aK ?_ | refine aG ?_ _)); refine jW ?_ qx.out _; (with_reducible repeat (first | refine aF ?_ _ | refine aK ?_ | refine aG ?_ _)); refine jW ?_ qx.out _; (with_reducible repeat (first | refine aF ?_ _ | refine aK ?_ | refine aG ?_ _)); exact iC.out⟩, ⟨by (with_reducible repeat (first | refine aF ?_ _ | refine aK ?_ | refine aG ?_ _)); refine jW ?_ qw.out _; (with_reducible repeat (first | refine aF ?_ _ | refine aK ?_ | refine aG ?_ _)); refine jW ?_ qw.out _; (with_reducible repeat (first | refine aF ?_ _ | refine aK ?_ | refine aG ?_ _)); refine jW ?_ qw.out _; (with_reducible repeat (first | refine aF ?_ _ | refine aK ?_ | refine aG ?_ _)); exact ji.out⟩, ⟨by (with_reducible repeat (first | refine aF ?_ _ | refine aK ?_ | refine aG ?_ _)); refine gJ (cs := #[.int .i64 t139, .int .i64 t140, .slice none 0 0]) ?_ 2 _ rfl; (with_reducible repeat (first | refine aF ?_ _ | refine aK ?_ | refine aG ?_ _)); refine gJ (cs := #[.int .i64 t139, .int .i64 0, .slice none 0 0]) ?_ 1 _ rfl; (with_reducible repeat (first | refine aF ?_ _ | refine aK ?_ | refine aG ?_ _)); refine gJ (cs := #[.int .i64 0, .int .i64 0, .slice none 0 0]) ?_ 0 _ rfl; (with_reducible repeat (first | refine aF ?_ _ | refine aK ?_ | refine aG ?_ _)); exact jh.out⟩, ⟨by repeat (first | (with_reducible first | exact HB.out | apply ak | apply ah | apply au | refine aB ?_ sK.out | refine aB ?_ xM.out | refine aB ?_ PM.out) | exact HB.out)⟩⟩
 case round =>
  clear H'
  try clear c1
  try clear p2
  try clear c5
  try clear c9
  try clear c10
  try clear c11
  try clear QO
  try clear QN
  try clear QM
  try clear Oa
  try clear N_
  try clear Vt
  try clear QD
  try clear Qz
  try clear Qy
  try clear NM
  try clear NL
  try clear Vf
  obtain ⟨g_, dN, yt, rfl, HA, wz, fE, iC, ji, jh, HB⟩ := hrel
  cases gk with
  | zero => exact absurd HA.out (by simp [bf.l0])
  | succ k1 =>
    have H := HA.out
    clear HA
    simp only [bf.l0] at H
    by_cases c13 : g_ < t139
    · rw [if_pos c13] at H
      have YE : decide (g_ < t139) = true := decide_eq_true c13
      clear c13
      obtain ⟨n_, NJ⟩ : ∃ j_ : Int, (wrap64 ((wrap64 (g_ * t140)) + g_)) = j_ := ⟨_, rfl⟩
      replace H : (if 0 ≤ (n_) then (if (n_) < (dN.length : Int) then (bf.l0 k1 t139 (wrap64 (g_ + 1)) t139 t140 (dN.set ((n_) : Int).toNat (mx (rd dN (n_)) 0))) else (none)) else (none)) = some (r1, r2, r3) := by first | (rw [NJ] at H; exact H) | (simp only [NJ] at H ⊢; exact H)
      have acp : (IntKind.i64.wrap ((wrap64 (g_ * t140)) + g_)) = n_ := (bV _).trans NJ
      by_cases c15 : 0 ≤ (n_)
      · rw [if_pos c15] at H
        have T_ : decide (0 ≤ (n_)) = true := decide_eq_true c15
        clear c15
        by_cases c16 : (n_) < (dN.length : Int)
        · rw [if_pos c16] at H
          have BM : decide ((n_) < (dN.length : Int)) = true := decide_eq_true c16
          clear c16
          obtain ⟨iF, og⟩ : ∃ j_ : Int, (mx (rd dN (n_)) 0) = j_ := ⟨_, rfl⟩
          replace H : (bf.l0 k1 t139 (wrap64 (g_ + 1)) t139 t140 (dN.set ((n_) : Int).toNat (iF))) = some (r1, r2, r3) := by first | (rw [og] at H; exact H) | (simp only [og] at H ⊢; exact H)
          have Vb : (if (rd dN (n_)) < 0 then 0 else (rd dN (n_))) = iF := og
          obtain ⟨Xq, ET⟩ : ∃ y_ : List Int, y_ = (dN.set ((n_) : Int).toNat (iF)) := ⟨_, rfl⟩
          replace H : (bf.l0 k1 t139 (wrap64 (g_ + 1)) t139 t140 Xq) = some (r1, r2, r3) := by first | (rw [ET]; with_reducible exact H) | (have WO := (Option.bind_some _ _).symm.trans H; rw [ET]; with_reducible exact WO) | (have WO := (Option.bind_some _ _).symm.trans H; with_reducible exact WO) | with_reducible exact H | (rw [ET]; exact H) | exact H
          have Zo := aj.mk ET
          clear ET
          have H' := aj.mk H
          clear H
          try go_wp2
          have bu := aj.mk (Kd.fU fE.out)
          have fH := aj.mk (aK iC.out)
          have fG := aj.mk (aK ji.out)
          have iG := aj.mk (aK jh.out)
          have kQ := aj.mk (au HB.out)
          clear fE
          clear iC
          clear ji
          clear jh
          clear HB
          have fE := bu
          have iC := fH
          have ji := fG
          have jh := iG
          have HB := kQ
          clear bu fH fG iG kQ
          obtain ⟨SL, LU, Oy⟩ := Kd.jg fE.out
          (first | subst Oy | (injection Oy with Fq Ol Fp; have Oj := Fq.symm; have Oi := Fp.symm; clear Fq Ol Fp; subst Oj; subst Oi))
          have UH : 0 ≤ ((n_) : Int) := of_decide_eq_true (by first | (with_reducible assumption) | assumption)
          have UF : (n_) < (dN.length : Int) := of_decide_eq_true (by first | (with_reducible assumption) | assumption)
          obtain ⟨afi, acW, Dz⟩ := Kd.pR (Kd.iQ fE.out).2.2 (n_) UH UF
          cases acW
          replace UH := eq_true UH
          replace UF := eq_true UF
          have p18 : 0 ≤ ((n_) : Int) := of_decide_eq_true (by first | (with_reducible assumption) | assumption)
          have q18 : ((n_) : Int) < ((dN.length : Int) : Int) := of_decide_eq_true (by first | (with_reducible assumption) | assumption)
          obtain ⟨VD, Rh, Oz, Ym, acK, aia, ZR⟩ := Kd.V7 fE.out (by omega)
          (first | cases Oz | (injection Oz with ea_ en_ ec_; (first | subst ea_ | (injection ea_ with ea_; subst ea_)); subst ec_; clear en_))
          have ad6 := aj.mk Ym
          have ad5 := aj.mk ZR
          clear Ym acK ZR
          (first | simp only [add_plain] at Dz | skip)
          obtain ⟨U8, Vo⟩ := Kd.RJ 0 fE.out ((n_) : Int) p18 q18
          replace p18 := eq_true p18
          replace q18 := eq_true q18
          have WB := Kd.V5 fE.out ((n_) : Int) iF
          rw [← Zo.out] at WB
          have ZO := aj.mk WB
          clear WB
          refine C_ (n := 21) (S := fun w' => w'.cell? ⟨kU, 0, none⟩ = some (.int .i64 t139) ∧ w'.cell? ⟨kU, 1, none⟩ = some (.int .i64 t140) ∧ w'.cell? ⟨kU, 2, none⟩ = some (.slice (some ⟨VD, 0, none⟩) dN.length LU) ∧ w'.cell? ⟨VD, ((n_)).toNat, none⟩ = some (.int .i64 (rd dN (n_)))) (ds := [20]) #[false, false, false, false, false, false, false, false, false, false, false, false, false, false, false, false, false, false, false, false, false] (by kernel_rfl) rfl rfl ⟨(aC jh.out 0).trans rfl, (aC jh.out 1).trans rfl, (aC jh.out 2).trans rfl, Dz⟩ (fun hHeld => ?_); refine sQ bf.abO bf.YH (fun jD Gm => ?_)
          generalize wr.drew = w19 at fE iC ji jh HB ad5 ZO Vo Dz U8 hHeld ⊢
          refine eu (i := 0) (N := some 18) (v := ?_) (a' := ?_) #[true, false, false, false, false, false, false, false, false, false, false, false, false, false, false, false, false, false, false, false, false] rfl rfl (dG jD.out (by kernel_rfl)) (fun _ _ _ h => h) (Or.inl ⟨by rfl, ?_⟩) ?_ ?_
          rotate_left
          · intro w'
            go_simp
            with_reducible rfl
          rotate_left
          · simp only [Act.put, List.setIfInBounds_toArray, List.set_cons_zero, List.set_cons_succ, bV, bZ]
            rfl
          refine eu (i := 2) (N := some 20) (v := ?_) (a' := ?_) #[true, false, true, false, false, false, false, false, false, false, false, false, false, false, false, false, false, false, false, false, false] rfl rfl (dG jD.out (by kernel_rfl)) (fun _ _ _ h => h) (Or.inl ⟨by rfl, ?_⟩) ?_ ?_
          rotate_left
          · intro w'
            go_simp
            with_reducible rfl
          rotate_left
          · simp only [Act.put, List.setIfInBounds_toArray, List.set_cons_zero, List.set_cons_succ, bV, bZ]
            rfl
          refine eu (i := 3) (N := some 21) (v := ?_) (a' := ?_) #[true, false, true, true, false, false, false, false, false, false, false, false, false, false, false, false, false, false, false, false, false] rfl rfl (dG jD.out (by kernel_rfl)) (fun _ _ _ h => h) (Or.inl ⟨by rfl, ?_⟩) ?_ ?_
          rotate_left
          · intro w'
            go_simp
            with_reducible rfl
          rotate_left
          · simp only [Act.put, List.setIfInBounds_toArray, List.set_cons_zero, List.set_cons_succ, bV, bZ]
            rfl
          refine eu (i := 6) (N := some 24) (v := ?_) (a' := ?_) #[true, false, true, true, false, false, true, false, false, false, false, false, false, false, false, false, false, false, false, false, false] rfl rfl (dG jD.out (by kernel_rfl)) (fun _ _ _ h => h) (Or.inl ⟨by rfl, ?_⟩) ?_ ?_
          rotate_left
          · intro w'
            go_simp
            with_reducible rfl
          rotate_left
          · simp only [Act.put, List.setIfInBounds_toArray, List.set_cons_zero, List.set_cons_succ, bV, bZ]
            rfl
          refine eu (i := 8) (N := some 26) (v := ?_) (a' := ?_) #[true, false, true, true, false, false, true, false, true, false, false, false, false, false, false, false, false, false, false, false, false] rfl rfl (dG jD.out (by kernel_rfl)) (fun _ _ _ h => h) (Or.inl ⟨by rfl, ?_⟩) ?_ ?_
          rotate_left
          · intro w'
            go_simp
            with_reducible rfl
          rotate_left
          · simp only [Act.put, List.setIfInBounds_toArray, List.set_cons_zero, List.set_cons_succ, bV, bZ]
            rfl
          refine eu (i := 10) (N := some 28) (v := ?_) (a' := ?_) #[true, false, true, true, false, false, true, false, true, false, true, false, false, false, false, false, false, false, false, false, false] rfl rfl (dG jD.out (by kernel_rfl)) (fun _ _ _ h => h) (Or.inl ⟨by rfl, ?_⟩) ?_ ?_
          rotate_left
          · intro w'
            go_simp
            with_reducible rfl
          rotate_left
          · simp only [Act.put, List.setIfInBounds_toArray, List.set_cons_zero, List.set_cons_succ, bV, bZ]
            rfl
          refine eu (i := 11) (N := some 29) (v := ?_) (a' := ?_) #[true, false, true, true, false, false, true, false, true, false, true, true, false, false, false, false, false, false, false, false, false] rfl rfl (dG jD.out (by kernel_rfl)) (fun _ _ _ h => h) (Or.inl ⟨by rfl, ?_⟩) ?_ ?_
          rotate_left
          · intro w'
            go_simp
            with_reducible rfl
          rotate_left
          · simp only [Act.put, List.setIfInBounds_toArray, List.set_cons_zero, List.set_cons_succ, bV, bZ]
            rfl
          refine eu (i := 14) (N := some 32) (v := ?_) (a' := ?_) #[true, false, true, true, false, false, true, false, true, false, true, true, false, false, true, false, false, false, false, false, false] rfl rfl (dG jD.out (by kernel_rfl)) (fun _ _ _ h => h) (Or.inl ⟨by rfl, ?_⟩) ?_ ?_
          rotate_left
          · intro w'
            go_simp
            with_reducible rfl
          rotate_left
          · simp only [Act.put, List.setIfInBounds_toArray, List.set_cons_zero, List.set_cons_succ, bV, bZ]
            rfl
          refine oO (i := 1) (N := some 19) (v := ?_) (a' := ?_) #[true, true, true, true, false, false, true, false, true, false, true, true, false, false, true, false, false, false, false, false, false] rfl rfl (f_ jD.out Gm.out (by kernel_rfl)) (fun _ _ _ h => h) (Or.inl ⟨by rfl, ?_⟩) hHeld ?_ ?_
          rotate_left
          · rintro w' ⟨s0, s1, s2, s3⟩
            go_simp
            with_reducible rfl
          rotate_left
          · simp only [Act.put, List.setIfInBounds_toArray, List.set_cons_zero, List.set_cons_succ, bV, bZ]
            rfl
          refine oO (i := 4) (N := some 22) (v := ?_) (a' := ?_) #[true, true, true, true, true, false, true, false, true, false, true, true, false, false, true, false, false, false, false, false, false] rfl rfl (f_ jD.out Gm.out (by kernel_rfl)) (fun _ _ _ h => h) (Or.inl ⟨by rfl, ?_⟩) hHeld ?_ ?_
          rotate_left
          · rintro w' ⟨s0, s1, s2, s3⟩
            go_simp
            with_reducible rfl
          rotate_left
          · simp only [Act.put, List.setIfInBounds_toArray, List.set_cons_zero, List.set_cons_succ, bV, bZ]
            rfl
          refine eu (i := 5) (N := some 23) (v := ?_) (a' := ?_) #[true, true, true, true, true, true, true, false, true, false, true, true, false, false, true, false, false, false, false, false, false] rfl rfl (dG jD.out (by kernel_rfl)) (fun _ _ _ h => h) (Or.inl ⟨by rfl, ?_⟩) ?_ ?_
          rotate_left
          · intro w'
            go_simp
            with_reducible rfl
          rotate_left
          · simp only [Act.put, List.setIfInBounds_toArray, List.set_cons_zero, List.set_cons_succ, bV, bZ]
            rfl
          refine eu (i := 7) (N := some 25) (v := ?_) (a' := ?_) #[true, true, true, true, true, true, true, true, true, false, true, true, false, false, true, false, false, false, false, false, false] rfl rfl (dG jD.out (by kernel_rfl)) (fun _ _ _ h => h) (Or.inl ⟨by rfl, ?_⟩) ?_ ?_
          rotate_left
          · intro w'
            go_simp
            with_reducible rfl
          rotate_left
          · simp only [Act.put, List.setIfInBounds_toArray, List.set_cons_zero, List.set_cons_succ, bV, bZ]
            rfl
          refine oO (i := 9) (N := some 27) (v := ?_) (a' := ?_) #[true, true, true, true, true, true, true, true, true, true, true, true, false, false, true, false, false, false, false, false, false] rfl rfl (f_ jD.out Gm.out (by kernel_rfl)) (fun _ _ _ h => h) (Or.inl ⟨by rfl, ?_⟩) hHeld ?_ ?_
          rotate_left
          · rintro w' ⟨s0, s1, s2, s3⟩
            go_simp
            with_reducible rfl
          rotate_left
          · simp only [Act.put, List.setIfInBounds_toArray, List.set_cons_zero, List.set_cons_succ, bV, bZ]
            rfl
          refine oO (i := 12) (N := some 30) (v := ?_) (a' := ?_) #[true, true, true, true, true, true, true, true, true, true, true, true, true, false, true, false, false, false, false, false, false] rfl rfl (f_ jD.out Gm.out (by kernel_rfl)) (fun _ _ _ h => h) (Or.inl ⟨by rfl, ?_⟩) hHeld ?_ ?_
          rotate_left
          · rintro w' ⟨s0, s1, s2, s3⟩
            go_simp
            with_reducible rfl
          rotate_left
          · simp only [Act.put, List.setIfInBounds_toArray, List.set_cons_zero, List.set_cons_succ, bV, bZ]
            rfl
          refine eu (i := 13) (N := some 31) (v := ?_) (a' := ?_) #[true, true, true, true, true, true, true, true, true, true, true, true, true, true, true, false, false, false, false, false, false] rfl rfl (dG jD.out (by kernel_rfl)) (fun _ _ _ h => h) (Or.inl ⟨by rfl, ?_⟩) ?_ ?_
          rotate_left
          · intro w'
            go_simp
            with_reducible rfl
          rotate_left
          · simp only [Act.put, List.setIfInBounds_toArray, List.set_cons_zero, List.set_cons_succ, bV, bZ]
            rfl
          refine eu (i := 15) (N := some 33) (v := ?_) (a' := ?_) #[true, true, true, true, true, true, true, true, true, true, true, true, true, true, true, true, false, false, false, false, false] rfl rfl (dG jD.out (by kernel_rfl)) (fun _ _ _ h => h) (Or.inl ⟨by rfl, ?_⟩) ?_ ?_
          rotate_left
          · intro w'
            go_simp
            with_reducible rfl
          rotate_left
          · simp only [Act.put, List.setIfInBounds_toArray, List.set_cons_zero, List.set_cons_succ, bV, bZ]
            rfl
          refine eu (i := 16) (N := some 34) (v := ?_) (a' := ?_) #[true, true, true, true, true, true, true, true, true, true, true, true, true, true, true, true, true, false, false, false, false] rfl rfl (dG jD.out (by kernel_rfl)) (fun _ _ _ h => h) (Or.inl ⟨by rfl, ?_⟩) ?_ ?_
          rotate_left
          · intro w'
            go_simp
            with_reducible rfl
          rotate_left
          · simp only [Act.put, List.setIfInBounds_toArray, List.set_cons_zero, List.set_cons_succ, bV, bZ]
            rfl
          refine oO (i := 17) (N := some 35) (v := ?_) (a' := ?_) #[true, true, true, true, true, true, true, true, true, true, true, true, true, true, true, true, true, true, false, false, false] rfl rfl (f_ jD.out Gm.out (by kernel_rfl)) (fun _ _ _ h => h) (Or.inl ⟨by rfl, ?_⟩) hHeld ?_ ?_
          rotate_left
          · rintro w' ⟨s0, s1, s2, s3⟩
            go_simp
            with_reducible rfl
          rotate_left
          · simp only [Act.put, List.setIfInBounds_toArray, List.set_cons_zero, List.set_cons_succ, bV, bZ]
            rfl
          refine eu (i := 18) (N := some 36) (v := ?_) (a' := ?_) #[true, true, true, true, true, true, true, true, true, true, true, true, true, true, true, true, true, true, true, false, false] rfl rfl (dG jD.out (by kernel_rfl)) (fun _ _ _ h => h) (Or.inl ⟨by rfl, ?_⟩) ?_ ?_
          rotate_left
          · intro w'
            go_simp
            with_reducible rfl
          rotate_left
          · simp only [Act.put, List.setIfInBounds_toArray, List.set_cons_zero, List.set_cons_succ, bV, bZ]
            rfl
          refine eu (i := 19) (N := some 37) (v := ?_) (a' := ?_) #[true, true, true, true, true, true, true, true, true, true, true, true, true, true, true, true, true, true, true, true, false] rfl rfl (dG jD.out (by kernel_rfl)) (fun _ _ _ h => h) (Or.inl ⟨by rfl, ?_⟩) ?_ ?_
          rotate_left
          · intro w'
            go_simp
            with_reducible rfl
          rotate_left
          · simp only [Act.put, List.setIfInBounds_toArray, List.set_cons_zero, List.set_cons_succ, bV, bZ]
            rfl
          refine XW (i := 20) (N := none) #[true, true, true, true, true, true, true, true, true, true, true, true, true, true, true, true, true, true, true, true, true] rfl rfl (mX jD.out (by kernel_rfl)) (by decide) (fun K hK => ?_)
          refine Tj (w1 := ?_) (by rfl) rfl ?_ ?_
          rotate_left
          · go_simp
            rfl
          refine hK.out _ _ ?_
          clear hK K
          refine Js (yx jD.out (by kernel_rfl)) ?_
          try go_wp2
          go_roundg k1
          case measure => have := wz.out; omega
          case rel => exact ⟨(wrap64 (g_ + 1)), (Xq), (.slice (some ⟨VD, 0, none⟩) dN.length LU), (by first | rfl | (simp; done) | (simp [*]; done)), H', ⟨by have := wz.out; omega⟩, ⟨by (with_reducible repeat (first | apply Kd.fA | apply Kd.eY | apply Kd.fU)); exact ZO.out⟩, ⟨by (with_reducible repeat (first | refine aF ?_ _ | refine aK ?_ | refine aG ?_ _)); refine jW ?_ (by have h_ := Kd.DU fE.out iC.out (by decide); intro e_; exact h_ (by rw [e_]; rfl)) _; (with_reducible repeat (first | refine aF ?_ _ | refine aK ?_ | refine aG ?_ _)); exact iC.out⟩, ⟨by (with_reducible repeat (first | refine aF ?_ _ | refine aK ?_ | refine aG ?_ _)); refine jW ?_ (by have h_ := Kd.DU fE.out ji.out (by decide); intro e_; exact h_ (by rw [e_]; rfl)) _; (with_reducible repeat (first | refine aF ?_ _ | refine aK ?_ | refine aG ?_ _)); exact ji.out⟩, ⟨by (with_reducible repeat (first | refine aF ?_ _ | refine aK ?_ | refine aG ?_ _)); refine jW ?_ (by have h_ := Kd.DU fE.out jh.out (by decide); intro e_; exact h_ (by rw [e_]; rfl)) _; (with_reducible repeat (first | refine aF ?_ _ | refine aK ?_ | refine aG ?_ _)); exact jh.out⟩, ⟨by repeat (first | (with_reducible first | exact HB.out | apply ak | apply ah | apply au | refine aB ?_ ad6.out | refine aB ?_ sK.out | refine aB ?_ xM.out | refine aB ?_ PM.out) | exact HB.out)⟩⟩
        · rw [if_neg c16] at H
          exact absurd H (by simp)
      · rw [if_neg c15] at H
        exact absurd H (by simp)
    · rw [if_neg c13] at H
      have YE : decide (g_ < t139) = false := decide_eq_false c13
      clear c13
      simp only [Option.some.injEq, Prod.mk.injEq] at H
      obtain ⟨rfl, rfl, rfl⟩ := H
      have Ye := Ce.out
      have Yb := qx.out
      have aeK := Cc.out
      have aeF := qw.out
      have aa3 : wr.cell? ⟨kU, 0, none⟩ = some (.int .i64 t139) := (aC jh.out 0).trans rfl
      have aa2 : wr.cell? ⟨kU, 1, none⟩ = some (.int .i64 t140) := (aC jh.out 1).trans rfl
      have aa1 : wr.cell? ⟨kU, 2, none⟩ = some (yt) := (aC jh.out 2).trans rfl
      have aaN := aU jh.out 0
      have aaM := aU jh.out 1
      have aaL := aU jh.out 2
      have aeJ := Ci.out
      have aeE := Cj.out
      have aa0 : wr.cell? ⟨lg, 0, none⟩ = some (.int .i64 0) := (aC ji.out 0).trans rfl
      have aaZ : wr.cell? ⟨lg, 1, none⟩ = some (.int .i64 0) := (aC ji.out 1).trans rfl
      have aaY : wr.cell? ⟨lg, 2, none⟩ = some (.slice none 0 0) := (aC ji.out 2).trans rfl
      have aaK := aU ji.out 0
      have aaJ := aU ji.out 1
      have aaI := aU ji.out 2
      obtain ⟨Z7, Yv, acM⟩ := Kd.jg fE.out
      subst acM
      go_wp2
      refine bodyPost_ret (results_cell_row rfl _ _ lg 31 #[.int .i64 t139, .int .i64 t140, .slice Z7 dN.length Yv] (0, 0) _ rfl (by (with_reducible repeat (first | refine aF ?_ _ | refine aK ?_ | refine aG ?_ _)); refine gJ (cs := #[.int .i64 t139, .int .i64 t140, .slice none 0 0]) ?_ 2 _ rfl; (with_reducible repeat (first | refine aF ?_ _ | refine aK ?_ | refine aG ?_ _)); refine gJ (cs := #[.int .i64 t139, .int .i64 0, .slice none 0 0]) ?_ 1 _ rfl; (with_reducible repeat (first | refine aF ?_ _ | refine aK ?_ | refine aG ?_ _)); refine gJ (cs := #[.int .i64 0, .int .i64 0, .slice none 0 0]) ?_ 0 _ rfl; (with_reducible repeat (first | refine aF ?_ _ | refine aK ?_ | refine aG ?_ _)); exact ji.out) Try.underlying31 rfl (by kernel_rfl)) rfl ?_
      exact ⟨_, by first | rfl | (simp [aI, aH] <;> rfl) | (simp [*, aI, aH] <;> rfl), by (with_reducible repeat (first | apply Kd.fA | apply Kd.eY | apply Kd.fU)); exact Kd.jO (Kd.mP (p := ⟨lg, 2, none⟩) (Kd.mP (p := ⟨lg, 1, none⟩) (Kd.mP (p := ⟨lg, 0, none⟩) (Kd.tH fE.out ji.out (by decide)) (fun _ hk => hk.2) (.int .i64 t139)) (fun _ hk => hk.2) (.int .i64 t140)) (fun _ hk => hk.2) (.slice Z7 dN.length Yv)) (fun _ hk => trivial), by repeat (first | (with_reducible first | exact HB.out | apply ak | apply ah | apply au | refine aB ?_ sK.out | refine aB ?_ xM.out | refine aB ?_ PM.out) | exact HB.out)⟩
end Go.Proofs.Ytnijhjbcjeohhaa.PR

namespace Go.Proofs.Ytnijhjbcjeohhaa.PR
open Go.RowKit Go.Proofs.Ytnijhjbcjeohhaa.PQ Go.Proofs.af.aA Go.Proofs.af.aN Go.Proofs.af.aP
attribute [local go_sem] gz gu jc iZ fD fC gy gq
set_option linter.unusedVariables false
set_option linter.unusedSimpArgs false
end Go.Proofs.Ytnijhjbcjeohhaa.PR

namespace Go.Proofs.Ytnijhjbcjeohhaa.PR
open Go.RowKit Go.Proofs.Ytnijhjbcjeohhaa.PQ Go.Proofs.af.aA Go.Proofs.af.aN Go.Proofs.af.aP Go.Proofs.Ytnijhjbcjeohhaa.KK
set_option linter.unusedVariables false
set_option linter.unusedSimpArgs false
theorem _root_.Go.Proofs.Ytnijhjbcjeohhaa.KK.Rd.touch {w w' : World} {A : Option Addr} {l : List Int} {g : Nat} (h : Rd w A l) (hg : w.grownBy w' (some g)) (hne : ∀ ad, A = some ad → 0 < l.length → ad.block ≠ g) : Rd w' A l := by
 refine ⟨h.1, h.2.1, fun hp => ?_⟩
 obtain ⟨ad, e, hc⟩ := h.2.2 hp
 refine ⟨ad, e, fun j p hj => ?_⟩
 obtain ⟨c, h1, h2, h3⟩ := hc j p hj
 refine ⟨c, h1, h2, fun i u hi => ?_⟩
 have hx := h3 i u hi
 have hb : (ad.add (j * (Kd.int .i64).sz + i)).block = ad.block := qJ _ _
 have hlt := cell_lt hx
 rw [hb] at hlt
 have hk := hg.block ad.block hlt (fun e' => hne ad e hp (by injection e'))
 rw [← hx]
 unfold World.cell?
 rw [hb, hk]
theorem _root_.Go.Proofs.Ytnijhjbcjeohhaa.KK.Own.touch {w w' : World} {base g : Nat} {v : Value} {l : List Int} (h : Own w base v l) (hg : w.grownBy w' (some g)) (hb : g < base) : Own w' base v l :=
 Own.rM (mg h.row fun k hk => hg.block k (h.row.lt k hk).2 (fun e => by have := (h.row.lt k hk).1; injection e with e; omega))
structure Sg (w0 : World) (g : Nat) (L : List (TypeId × Array Value)) (w : World) : Prop where
 rows : KK.Rows w w0.heap.size L
 gr : w0.grownBy w (some g)
section
variable {w w' w0 : World} {g : Nat} {L : List (TypeId × Array Value)}
theorem Sg.of (h : aS w0 L w) : Sg w0 g L w := ⟨h.rows, KK.b_ h.be _⟩
theorem Sg.below (h : Sg w0 g L w) (hb : Below w.heap.size w w') : Sg w0 g L w' := ⟨h.rows.below hb, a_ h.gr (KK.b_ hb _)⟩
theorem Sg.alloc (h : Sg w0 g L w) (o : Obj) : Sg w0 g L (w.alloc o) := h.below ((Below.refl _ _).alloc (Nat.le_refl _) o)
theorem Sg.drew (h : Sg w0 g L w) : Sg w0 g L w.drew := h.below (Below.refl _ _).drew
theorem Sg.touch (h : Sg w0 g L w) (hg : w.grownBy w' (some g)) (hlt : g < w0.heap.size) : Sg w0 g L w' :=
 ⟨h.rows.imp fun k t cs hk _ r => r.grown hg (fun e => by injection e with e; omega), a_ h.gr hg⟩
variable {x0 x1 x2 x3 x4 x5 : TypeId × Array Value}
theorem Sg.r0 (h : Sg w0 g (x0 :: L) w) : Row w w0.heap.size x0.1 x0.2 := h.rows.1
theorem Sg.r1 (h : Sg w0 g (x0 :: x1 :: L) w) : Row w (w0.heap.size + 1) x1.1 x1.2 := h.rows.2.1
theorem Sg.r2 (h : Sg w0 g (x0 :: x1 :: x2 :: L) w) : Row w (w0.heap.size + 1 + 1) x2.1 x2.2 := h.rows.2.2.1
theorem Sg.r3 (h : Sg w0 g (x0 :: x1 :: x2 :: x3 :: L) w) : Row w (w0.heap.size + 1 + 1 + 1) x3.1 x3.2 := h.rows.2.2.2.1
end
theorem vC (g : Nat) (s o : Bool) (q : Int) (w : World) (R : Row w g 158 #[.bool s]) :
 Calls Try.prog 119 #[.pointer (some ⟨g, 0, none⟩), I q, .bool o] w fun e w' => e = .returned (I q) ∧ Row w' g 158 #[.bool (s || o)] ∧ w.grownBy w' (some g) := by
 have x := R.cell
 have f := R.free
 have HR := Lib.hid (R.set 0 (.bool (s || o)))
 have HG : Hid (w.grownBy (w.setCell ⟨g, 0, none⟩ (.bool (s || o))) (some g)) := Lib.hid ⟨rfl, rfl, rfl, by simp, fun k hk hne => Below.heap_setCell w _ _ k (fun e => hne (by rw [e]))⟩
 clear R
 cases s
 all_goals
  go_enter Try.func119, Try.ntmps119
  go_wp2
  go_ret
  exact ⟨rfl, by simpa using HR.out, by simpa using HG.out⟩
theorem Kq (w : World) (g j : Nat) (u : Value) : w.grownBy (w.setCell ⟨g, j, none⟩ u) (some g) := ⟨rfl, rfl, rfl, by simp, fun k hk hne => Below.heap_setCell w _ _ k (fun e => hne (by rw [e]))⟩
theorem KR (g : Nat) (s u : Bool) (X : Array Value) (w : World) (R : Row w g 158 #[.bool s]) (W : World) (hW : W = ((w.setCell ⟨g, 0, none⟩ (.bool u)).alloc (.cells X 31)).alloc (.cells X 31)) :
 Row W (w.heap.size + 1) 31 X ∧ Row W g 158 #[.bool u] ∧ w.grownBy W (some g) := by
 subst hW
 refine ⟨?_, ?_, ?_⟩
 · have := Row.new ((w.setCell ⟨g, 0, none⟩ (.bool u)).alloc (.cells X 31)) 31 X
   simpa using this
 · exact ((R.set 0 (.bool u)).alloc _).alloc _
 · exact a_ (Kq w g 0 _) (KK.b_ (((Below.refl _ _).alloc (Nat.le_refl _) _).alloc (by simp) _) _)
theorem nZ (g : Nat) (s o : Bool) (a b c : Int) (A : Option Addr) (n cp : Nat) (w : World) (R : Row w g 158 #[.bool s]) :
 Calls Try.prog 100 #[.pointer (some ⟨g, 0, none⟩), .agg #[I a, I b, .slice A n cp], .bool o, I c] w fun e w' => e = .returned (.agg #[I a, I b, .slice A n cp]) ∧ Row w' g 158 #[.bool (s || o)] ∧ w.grownBy w' (some g) := by
 have hg := R.lt
 have E := Lib.hid (fun u W h => KR g s u #[I a, I b, .slice A n cp] w R W h)
 have x := R.cell
 have f := R.free
 clear R
 cases s
 all_goals
  go_enter Try.func100, Try.ntmps100
  go_wp2
  first
   | exact bodyPost_ret (Qd rfl rfl (E.out o _ rfl).1) rfl ⟨rfl, (E.out o _ rfl).2.1, (E.out o _ rfl).2.2⟩
   | exact bodyPost_ret (Qd rfl rfl (E.out true _ rfl).1) rfl ⟨rfl, (E.out true _ rfl).2.1, (E.out true _ rfl).2.2⟩
end Go.Proofs.Ytnijhjbcjeohhaa.PR

namespace Go.Proofs.Ytnijhjbcjeohhaa.PR
open Go.RowKit Go.Proofs.Ytnijhjbcjeohhaa.PQ Go.Proofs.af.aA Go.Proofs.af.aN Go.Proofs.af.aP Go.Proofs.Ytnijhjbcjeohhaa.KK
set_option linter.unusedVariables false
set_option linter.unusedSimpArgs false
theorem Et {w0 w : World} {g : Nat} {s : Bool} (h : ay w0 w g s) : Row w g 158 #[.bool s] := h.1
theorem grown_of {w0 w w' : World} {g : Nat} (hB : Below w0.heap.size w0 w) (hB' : Below w0.heap.size w0 w') (hk : aW w w' g none) : w.grownBy w' (some g) :=
 ⟨hB'.os.trans hB.os.symm, hB'.tape.trans hB.tape.symm, hB'.output.trans hB.output.symm, hk.1, fun k hk' hne => hk.2 k hk' (fun e => hne (by rw [e])) (by simp)⟩
theorem sG {w0 w w' : World} {g : Nat} (hB : Below w0.heap.size w0 w) (hg : w0.heap.size ≤ g) (h : w.grownBy w' (some g)) : Below w0.heap.size w0 w' :=
 ⟨h.os.trans hB.os, h.tape.trans hB.tape, h.output.trans hB.output, Nat.le_trans hB.size h.size, fun k hk => (h.block k (Nat.lt_of_lt_of_le hk hB.size) (fun e => by injection e with e; omega)).trans (hB.block k hk)⟩
theorem Qo {w w' : World} {g : Nat} (h : w.grownBy w' (some g)) : aW w w' g none := ⟨h.size, fun k hk hne _ => h.block k hk (fun e => hne (by injection e))⟩
theorem w_ (w0 w : World) (g : Nat) (s : Bool) (bU bW : Int) (A1 : Option Addr) (c1 : Nat) (l1 : List Int) (kK kJ : Int) (A2 : Option Addr) (c2 : Nat) (l2 : List Int) (r1 r2 : Int) (r3 : List Int) (r4 : Bool)
 (R : Row w g 158 #[.bool s]) (hg : w0.heap.size ≤ g) (hB : Below w0.heap.size w0 w) (h1 : Rd w A1 l1) (hc1 : l1.length ≤ c1) (hf1 : ∀ ad, A1 = some ad → 0 < l1.length → ad.block ≠ g) (h2 : Rd w A2 l2) (hc2 : l2.length ≤ c2) (hf2 : ∀ ad, A2 = some ad → 0 < l2.length → ad.block ≠ g)
 (h : aZ.f s bU bW l1 kK kJ l2 = some (r1, r2, r3, r4)) :
 Calls Try.prog 103 #[.pointer (some ⟨g, 0, none⟩), .agg #[I bU, I bW, .slice A1 l1.length c1], .agg #[I kK, I kJ, .slice A2 l2.length c2]] w fun e w' => ∃ A c, e = .returned (.agg #[I r1, I r2, .slice A r3.length c]) ∧ Own w' w.heap.size (.slice A r3.length c) r3 ∧ Row w' g 158 #[.bool r4] ∧ w.grownBy w' (some g) := by
 refine (aZ.calls g s bU bW A1 c1 l1 kK kJ A2 c2 l2 r1 r2 r3 r4 w0 w ⟨R, hg⟩ hB h1 hc1 hf1 h2 hc2 hf2 h).mono ?_
 rintro e w' ⟨v, rfl, ho, hI, hb, hk⟩
 obtain ⟨A, c, rfl, _, _⟩ := Own.reads ho
 exact ⟨A, c, rfl, ho, hI.1, grown_of hB hb hk⟩
theorem Own.first {w : World} {base : Nat} {A : Option Addr} {c : Nat} {l : List Int} (h : Own w base (.slice A l.length c) l) (hp : 0 < l.length) : ∃ b off, A = some ⟨b, off, none⟩ ∧ w.cell? ⟨b, off, none⟩ = some (I (l.getD 0 0)) ∧ base ≤ b := by
 obtain ⟨A', c', he, _, hr⟩ := Own.reads h
 injection he with e1 _ _
 subst e1
 obtain ⟨b, off, rfl, _, hc⟩ := hr.cells hp
 refine ⟨b, off, rfl, ?_, ?_⟩
 · have := hc 0 _ (oW hp)
   simpa using this
 · exact (h.row.lt b rfl).1
theorem VE (a b : Int) (A : Option Addr) (n c : Nat) (w : World) : (Instr.field 31 (.agg #[.int .i64 a, .int .i64 b, .slice A n c]) 2).run Try.prog w = .ok (.slice A n c) w := by
 have hu := Try.underlying31
 have hk : Try.prog.cellsOf 29 = 1 := by kernel_rfl
 simp [Instr.field, go_sem, hu, hk, asAgg]
def dw.f (lN : Bool) (bU : Int) (bW : Int) (bK : List Int) (Gh : Int) (Gg : Int) (xX : List Int) (kK : Int) (kJ : Int) (jG : List Int) (a3 : Int) (a4 : Int) : Option (Int × Int × Bool) :=
 (gX.f kK kJ jG bU bW bK).bind fun m => if 0 < m.2.2.1.length then
   ((aZ.f (lN || m.2.2.2.1 || (kC a3 (m.2.2.1.getD 0 0)).2) kK kJ jG Gh Gg xX).bind fun b => if 0 < b.2.2.1.length then some ((kC a3 (m.2.2.1.getD 0 0)).1, (gQ (b.2.2.1.getD 0 0) a4).1, b.2.2.2 || (gQ (b.2.2.1.getD 0 0) a4).2) else none) else none
theorem dw.calls (g : Nat) (lN : Bool) (bU : Int) (bW : Int) (fK : Option Addr) (fM : Nat) (bK : List Int) (Gh : Int) (Gg : Int) (IV : Option Addr) (LW : Nat) (xX : List Int) (kK : Int) (kJ : Int) (pV : Option Addr) (qI : Nat) (jG : List Int) (a3 : Int) (a4 : Int) (r1 : Int) (r2 : Int) (r3 : Bool) (w0 w : World) (hI : ay w0 w g lN) (hB : Below w0.heap.size w0 w)
 (qi : Kd.C (Kd.int .i64) w fK bK.length bK) (qO : bK.length ≤ fM) (Fb : ∀ ad, fK = some ad → 0 < bK.length → ad.block ≠ g) (TI : Kd.C (Kd.int .i64) w IV xX.length xX) (TL : xX.length ≤ LW) (NS : ∀ ad, IV = some ad → 0 < xX.length → ad.block ≠ g) (EU : Kd.C (Kd.int .i64) w pV jG.length jG) (Fg : jG.length ≤ qI) (Fa : ∀ ad, pV = some ad → 0 < jG.length → ad.block ≠ g)
 (h : dw.f lN bU bW bK Gh Gg xX kK kJ jG a3 a4 = some (r1, r2, r3)) :
 Calls Try.prog 118 #[.pointer (some ⟨g, 0, none⟩), .agg #[.int .i64 bU, .int .i64 bW, .slice fK bK.length fM, .int .i64 Gh, .int .i64 Gg, .slice IV xX.length LW], .agg #[.int .i64 kK, .int .i64 kJ, .slice pV jG.length qI], .int .i64 a3, .int .i64 a4] w fun e w' => e = .returned (.tuple #[.int .i64 r1, .int .i64 r2]) ∧ ay w0 w' g r3 ∧ Below w0.heap.size w0 w' ∧ aW w w' g none := by
 unfold dw.f at h
 obtain ⟨⟨m1, m2, lm, fm, em⟩, hm, h⟩ := Option.bind_eq_some_iff.1 h
 dsimp only at h
 split at h
 case isFalse => cases h
 rename_i hp
 obtain ⟨⟨b1, b2, lb, fb⟩, hbt, h⟩ := Option.bind_eq_some_iff.1 h
 dsimp only at h
 split at h
 case isFalse => cases h
 rename_i hp2
 simp only [Option.some.injEq, Prod.mk.injEq] at h
 obtain ⟨rfl, rfl, rfl⟩ := h
 have hgl := (Et hI).lt
 have N : Hid (Sg w g [(33, #[I bU, I bW, .slice fK bK.length fM, I Gh, I Gg, .slice IV xX.length LW]), (31, #[I kK, I kJ, .slice pV jG.length qI])] ((w.alloc (.cells #[I bU, I bW, .slice fK bK.length fM, I Gh, I Gg, .slice IV xX.length LW] 33)).alloc (.cells #[I kK, I kJ, .slice pV jG.length qI] 31))) := Lib.hid (Sg.of (((aS.none w).push (by simp) _ _).push (by simp) _ _))
 have R := Lib.hid (((Et hI).alloc (.cells #[I bU, I bW, .slice fK bK.length fM, I Gh, I Gg, .slice IV xX.length LW] 33)).alloc (.cells #[I kK, I kJ, .slice pV jG.length qI] 31))
 have HG := Lib.hid hI.2
 have HB := Lib.hid hB
 have C1 := Lib.hid qO
 have C5 := Lib.hid TL
 have C2 := Lib.hid Fg
 have T1 := Lib.hid (fun w' (h : w.grownBy w' (some g)) => Rd.touch qi h Fb)
 have T5 := Lib.hid (fun w' (h : w.grownBy w' (some g)) => Rd.touch TI h NS)
 have T2 := Lib.hid (fun w' (h : w.grownBy w' (some g)) => Rd.touch EU h Fa)
 have F2 := Lib.hid Fa
 have F5 := Lib.hid NS
 have HM := Lib.hid hm
 have HBT := Lib.hid hbt
 have P1 := Lib.hid hp
 have P2 := Lib.hid hp2
 have GL := Lib.hid hgl
 clear hI hB qi qO Fb TI TL NS EU Fg Fa hm hbt hp hp2 hgl
 obtain ⟨z, hz⟩ : ∃ z, kC a3 (lm.getD 0 0) = z := ⟨_, rfl⟩
 obtain ⟨y, hy⟩ : ∃ y, gQ (lb.getD 0 0) a4 = y := ⟨_, rfl⟩
 rw [hz] at HBT ⊢
 rw [hy]
 have HZ := Lib.hid hz
 have HY := Lib.hid hy
 clear hz hy
 obtain ⟨z1, z2⟩ := z
 obtain ⟨y1, y2⟩ := y
 dsimp only at HBT ⊢
 have hmf := KK.hmf
 have hfd := VE
 go_enter Try.func118, Try.ntmps118
 go_wp2_with fail
 refine (gX.calls kK kJ pV qI jG bU bW fK fM bK m1 m2 lm fm em _ (T2.out _ N.out.gr) C2.out (T1.out _ N.out.gr) C1.out HM.out).mono ?_
 rintro e w2 ⟨v, rfl, ho, hb⟩
 obtain ⟨Am, cm, rfl, _, _⟩ := Own.reads ho
 have O := Lib.hid ho
 have N2 := Lib.hid (N.out.below hb)
 have R2 := Lib.hid (R.out.below hb R.out.lt)
 clear ho hb
 go_wp2_with fail
 refine (nZ g lN fm m1 m2 em Am lm.length cm w2 R2.out).mono ?_
 rintro e w3 ⟨rfl, hr3, hg3⟩
 have O3 := Lib.hid (Own.touch O.out hg3 (by have := GL.out; simp; omega))
 have N3 := Lib.hid (N2.out.touch hg3 GL.out)
 have R3 := Lib.hid hr3
 clear hr3 hg3
 obtain ⟨bm, om, rfl, x, _⟩ := Own.first O3.out P1.out
 have hlm : (0 : Int) < lm.length := by have := P1.out; omega
 go_wp2_with fail
 refine (pY a3 (lm.getD 0 0) w3).mono ?_
 rw [HZ.out]
 rintro e w4 ⟨rfl, hb⟩
 have N4 := Lib.hid (N3.out.below hb)
 have R4 := Lib.hid (R3.out.below hb R3.out.lt)
 clear hb x
 go_wp2_with fail
 refine (vC g (lN || fm) z2 z1 w4 R4.out).mono ?_
 rintro e w5 ⟨rfl, hr5, hg5⟩
 have N5 := Lib.hid (N4.out.touch hg5 GL.out)
 have R5 := Lib.hid hr5
 clear hr5 hg5
 have x0 := N5.out.r0.cell
 have x1 := N5.out.r1.cell
 go_wp2_with fail
 refine (w_ w0 w5 g _ kK kJ pV qI jG Gh Gg IV LW xX b1 b2 lb fb R5.out HG.out (sG HB.out HG.out N5.out.gr) (T2.out _ N5.out.gr) C2.out F2.out (T5.out _ N5.out.gr) C5.out F5.out HBT.out).mono ?_
 rintro e w6 ⟨Ab, cb, rfl, ho, hr6, hg6⟩
 have N6 := Lib.hid (N5.out.touch hg6 GL.out)
 have R6 := Lib.hid hr6
 obtain ⟨bb, ob, rfl, x, _⟩ := Own.first ho P2.out
 have hlb : (0 : Int) < lb.length := by have := P2.out; omega
 clear hr6 hg6 ho x0 x1 hlm
 go_wp2_with fail
 refine (nP (lb.getD 0 0) a4 w6).mono ?_
 rw [HY.out]
 rintro e w7 ⟨rfl, hb⟩
 have N7 := Lib.hid (N6.out.below hb)
 have R7 := Lib.hid (R6.out.below hb R6.out.lt)
 clear hb x
 go_wp2_with fail
 refine (vC g fb y2 y1 w7 R7.out).mono ?_
 rintro e w8 ⟨rfl, hr8, hg8⟩
 have N8 := Lib.hid (N7.out.touch hg8 GL.out)
 have R8 := Lib.hid hr8
 clear hr8 hg8
 go_wp2
 go_ret2
 exact ⟨rfl, ⟨R8.out, HG.out⟩, sG HB.out HG.out N8.out.gr, Qo N8.out.gr⟩
end Go.Proofs.Ytnijhjbcjeohhaa.PR

namespace Go.Proofs.Ytnijhjbcjeohhaa.PR
open Go.RowKit Go.Proofs.Ytnijhjbcjeohhaa.PQ Go.Proofs.af.aA Go.Proofs.af.aN Go.Proofs.af.aP Go.Proofs.Ytnijhjbcjeohhaa.KK
set_option linter.unusedVariables false
set_option linter.unusedSimpArgs false
theorem sZ (a b : Int) (w : World) : Calls Try.prog 93 #[I a, I b] w fun e w' => e = .returned (.tuple #[I (xA a b).1, .bool (xA a b).2]) ∧ Below w.heap.size w w' := by
 obtain ⟨k, hk⟩ := TZ a b
 exact kM.calls k a b _ _ w (hk k (Nat.le_refl _))
def uF (n : Nat) (L : List Int) : Nat → List Int
 | 0 => L
 | j + 1 => (uF n L j).set (j * n + j) (mx (rd (uF n L j) (((j * n + j : Nat)) : Int)) 0)
def um (n : Nat) (l : List Int) : List Int := uF n (BG n l) n
theorem pO (n : Nat) (L : List Int) (j : Nat) : (uF n L j).length = L.length := by
 induction j with
 | zero => rfl
 | succ j ih => simp only [uF, List.length_set, ih]
theorem qG (n : Nat) (l : List Int) : (BG n l).length = n * n := upto_length
theorem Lj (n : Nat) (L : List Int) (hn : n ≤ 8) (hL : L.length = n * n) : ∀ (d j : Nat), j + d = n → bf.l0 (d + 1) n j n n (uF n L j) = some ((n : Int), (n : Int), uF n L n) := by
 intro d
 induction d with
 | zero =>
   intro j hj
   obtain rfl : j = n := by omega
   unfold bf.l0
   rw [if_neg (by omega)]
 | succ d ih =>
   intro j hj
   have hlt := lQ (r := n) (c := n) (i := j) (k := j) (by omega) (by omega)
   have hle : n * n ≤ 8 * 8 := Nat.mul_le_mul hn hn
   have e1 : (j : Int) * (n : Int) = ((j * n : Nat) : Int) := by push_cast; rfl
   have e2 : wrap64 ((j : Int) * (n : Int)) = ((j * n : Nat) : Int) := by rw [e1]; exact JS (by omega) (by omega)
   have e3 : wrap64 (((j * n : Nat) : Int) + (j : Int)) = ((j * n + j : Nat) : Int) := by rw [JS (by omega) (by omega)]; push_cast; rfl
   have e4 : wrap64 ((j : Int) + 1) = ((j + 1 : Nat) : Int) := by rw [JS (by omega) (by omega)]; push_cast; rfl
   unfold bf.l0
   rw [if_pos (by omega), e2, e3, if_pos (by omega), if_pos (by rw [pO, hL]; omega), e4, Int.toNat_natCast]
   exact ih (j + 1) (by omega)
theorem Lh (n : Nat) (l : List Int) (hn : n ≤ 8) (hl : l.length = n * n) : bf.f (n + 1) n n l = some ((n : Int), (n : Int), um n l) := by
 have e1 : (l.length : Int) = (n : Int) * (n : Int) := by rw [hl]; push_cast; rfl
 unfold bf.f nY.f
 rw [if_pos ⟨rfl, by omega, by omega, by omega, by omega, e1⟩]
 simp only [Option.bind_some, Int.toNat_natCast]
 exact Lj n (BG n l) hn (qG n l) n 0 (by omega)
theorem zh (n : Nat) (A : Option Addr) (c : Nat) (l : List Int) (w : World) (hn : n ≤ 8) (hl : l.length = n * n) (hA : Rd w A l) (hc : l.length ≤ c) :
 Calls Try.prog 104 #[.agg #[I n, I n, .slice A l.length c]] w fun e w' => ∃ A2 c2, e = .returned (.agg #[I n, I n, .slice A2 (um n l).length c2]) ∧ Own w' w.heap.size (.slice A2 (um n l).length c2) (um n l) ∧ Below w.heap.size w w' := by
 refine (bf.calls (n + 1) n n A c l _ _ _ w hA hc (Lh n l hn hl)).mono ?_
 rintro e w' ⟨v, rfl, ho, hb⟩
 obtain ⟨A2, c2, rfl, _, _⟩ := Own.reads ho
 exact ⟨A2, c2, rfl, ho, hb⟩
def gK (r n : Nat) (a p : List Int) : List Int := mulL r n r (mulL r n n a p) (xP r n a)
def mM (r n : Nat) (a p : List Int) : Bool := qC r n n a p || qC r n r (mulL r n n a p) (xP r n a)
theorem jm (r c1 c2 : Nat) (l m : List Int) : (mulL r c1 c2 l m).length = r * c2 := upto_length
theorem shape {r c : Nat} {l : List Int} (hr : r ≤ 8) (hc : c ≤ 8) (hl : l.length = r * c) : 0 ≤ (r : Int) ∧ (r : Int) ≤ 8 ∧ 0 ≤ (c : Int) ∧ (c : Int) ≤ 8 ∧ (l.length : Int) = (r : Int) * (c : Int) :=
 ⟨by omega, by omega, by omega, by omega, by rw [hl]; push_cast; rfl⟩
theorem yX {r c1 c2 : Nat} {l m : List Int} (hr : r ≤ 8) (h1 : c1 ≤ 8) (h2 : c2 ≤ 8) (hl : l.length = r * c1) (hm : m.length = c1 * c2) : gX.f r c1 l c1 c2 m = some ((r : Int), (c2 : Int), mulL r c1 c2 l m, qC r c1 c2 l m, 0) := by
 unfold gX.f
 rw [if_pos rfl, if_pos ⟨shape hr h1 hl, shape h1 h2 hm⟩]
 simp only [Int.toNat_natCast]
theorem GK {r c : Nat} {l : List Int} (hr : r ≤ 8) (hc : c ≤ 8) (hl : l.length = r * c) : iU.f r c l = some ((c : Int), (r : Int), xP r c l) := by
 unfold iU.f
 rw [if_pos (shape hr hc hl)]
 simp only [Int.toNat_natCast]
theorem CV (s : Bool) (a b : Int) (l : List Int) (o : Bool) (e : Int) : bY.f s a b l o e = some (a, b, l, s || o) := by
 unfold bY.f
 cases s <;> simp
theorem qK (s : Bool) (r n : Nat) (a p : List Int) (hr : r ≤ 8) (hn : n ≤ 8) (ha : a.length = r * n) (hp : p.length = n * n) :
 aZ.f s r n a n n p = some ((r : Int), (r : Int), gK r n a p, s || mM r n a p) := by
 unfold aZ.f
 simp only [yX hr hn hn ha hp, Option.bind_some, CV, GK hr hn ha, yX hr hn hr (jm _ _ _ _ _) (uA r n a)]
 simp [gK, mM, Bool.or_assoc]
theorem pM {w w' : World} {r : Option Nat} (h : w.grownBy w' r) {p : Addr} (hp : w.heap.size ≤ p.block) (u : Value) : w.grownBy (w'.setCell p u) r :=
 ⟨h.os, h.tape, h.output, by simpa using h.size, fun k hk hne => (Below.heap_setCell w' p u k (by omega)).trans (h.block k hk hne)⟩
theorem vM {w w' : World} {r : Option Nat} (h : w.grownBy w' r) {C : Nat} (hp : w.heap.size ≤ C) (a b c : Value) : w.grownBy (bG w' C a b c) r :=
 pM (pM (pM h (p := ⟨C, 0, none⟩) hp a) (p := ⟨C, 1, none⟩) hp b) (p := ⟨C, 2, none⟩) hp c
theorem uT (g kb pb n : Nat) (s : Bool) (A : Option Addr) (cp : Nat) (k : List Int) (q : Int) (w : World) (hn : n ≤ 8) (hk : k.length = n * 1) (hA : Rd w A k) (hcp : k.length ≤ cp)
 (Rk : Row w kb 31 #[I n, I 1, .slice A k.length cp]) (Rp : Row w pb 156 #[.pointer (some ⟨g, 0, none⟩)]) (R : Row w g 158 #[.bool s]) :
 Calls Try.prog 124 #[I q, .pointer (some ⟨kb, 0, none⟩), .pointer (some ⟨pb, 0, none⟩)] w fun e w' => ∃ A2 c2, e = .returned (.agg #[I n, I 1, .slice A2 (jK n 1 k q).length c2]) ∧ Own w' w.heap.size (.slice A2 (jK n 1 k q).length c2) (jK n 1 k q) ∧ Row w' g 158 #[.bool (s || scaleB n 1 k q)] ∧ w.grownBy w' (some g) := by
 have hgl := R.lt
 have N : Hid (Sg w g [(31, #[I 0, I 0, .slice none 0 0])] (w.alloc (.cells #[I 0, I 0, .slice none 0 0] 31))) := Lib.hid (Sg.of ((aS.none w).push (by simp) _ _))
 have HS := Lib.hid (KQ n 1 A cp k q _ hn (by omega) hk (hA.below ((Below.refl _ _).alloc (Nat.le_refl _) (.cells #[I 0, I 0, .slice none 0 0] 31))) hcp)
 have x0 := (Rk.alloc (.cells #[I 0, I 0, .slice none 0 0] 31)).cell
 have RP := Lib.hid (Rp.alloc (.cells #[I 0, I 0, .slice none 0 0] 31))
 have RG := Lib.hid (R.alloc (.cells #[I 0, I 0, .slice none 0 0] 31))
 have GL := Lib.hid hgl
 obtain ⟨L, hL⟩ : ∃ L, jK n 1 k q = L := ⟨_, rfl⟩
 obtain ⟨b, hb⟩ : ∃ b, scaleB n 1 k q = b := ⟨_, rfl⟩
 rw [hL, hb] at HS ⊢
 clear hn hk hA hcp Rk Rp R hgl hL hb
 go_enter Try.func124, Try.ntmps124
 go_wp2_with fail
 refine HS.out.mono ?_
 rintro e w2 ⟨v, rfl, ho, hb⟩
 obtain ⟨A2, c2, rfl, _, _⟩ := Own.reads ho
 have O := Lib.hid ho
 have N2 := Lib.hid ((N.out.below hb).alloc (.cells #[I n, I 1, .slice A2 L.length c2] 31))
 have RP2 := Lib.hid (RP.out.below hb RP.out.lt)
 have Ug := Lib.hid ((RG.out.below hb RG.out.lt).alloc (.cells #[I n, I 1, .slice A2 L.length c2] 31))
 clear ho hb x0
 have x1 := RP2.out.cell
 have x2 := RP2.out.lt
 go_wp2_with fail
 refine (nZ g s b n 1 0 A2 L.length c2 _ Ug.out).mono ?_
 rintro e w3 ⟨rfl, hr3, hg3⟩
 have O3 := Lib.hid (Own.touch (O.out.alloc _) hg3 (by have := GL.out; simp; omega))
 have N3 := Lib.hid (N2.out.touch hg3 GL.out)
 have R3 := Lib.hid hr3
 clear hr3 hg3 x1 x2
 have x1 := N3.out.r0.cell
 have g1 := N3.out.r0.free
 go_wp2
 refine bodyPost_ret (Qd rfl rfl (N3.out.r0.bG _ _ _)) rfl ⟨_, _, rfl, ?_, R3.out.oM (by have := GL.out; omega), vM N3.out.gr (Nat.le_refl _) _ _ _⟩
 exact (O3.out.bG (by simp) _ _ _).lower (by simp)
end Go.Proofs.Ytnijhjbcjeohhaa.PR

namespace Go.Proofs.Ytnijhjbcjeohhaa.KK
open Go.RowKit
set_option linter.unusedVariables false
set_option linter.unusedSimpArgs false
section
variable {P : Program} {md : Region.Mode} {ops : Array Oper} {Q : Exit → Act → World → Prop} {S : World → Prop} {m : Nat}
def Until (P : Program) (md : Region.Mode) (ops : Array Oper) (Q : Exit → Act → World → Prop) (S : World → Prop) (m : Nat) : Nat → Array Bool → Act → World → Prop
 | 0, L, a, w => Region.ready md ops L = [] ∧ Q .normal a w
 | f + 1, L, a, w => (Region.ready md ops L = [] → Q .normal a w) ∧
     ∀ i ∈ Region.ready md ops L, wpOp P ops Q i (fun a' w' => ((L.setIfInBounds i true).getD m true = false → S w') ∧ Until P md ops Q S m f (L.setIfInBounds i true) a' w') a w
theorem Until.any : ∀ (f : Nat) (L : Array Bool) (a : Act) (w : World), Until P md ops Q S m f L a w → wpAny P md ops Q f L a w
 | 0, _, _, _, h => h
 | f + 1, _, _, _, h => ⟨h.1, fun i hi => wpOp_mono (fun a' w' h' => Until.any f _ a' w' h'.2) (h.2 i hi)⟩
def waits (md : Region.Mode) (ops : Array Oper) (m i : Nat) : Bool := match ops[m]? with | some o => o.after.any fun e => Region.binds md e && e.on == i | none => false
theorem Gz {i : Nat} (h : waits md ops m i = true) : ∃ o e, ops[m]? = some o ∧ e ∈ o.after ∧ Region.binds md e = true ∧ e.on = i := by
 unfold waits at h
 cases ho : ops[m]? with
 | none => rw [ho] at h; cases h
 | some o =>
   rw [ho] at h
   simp only [Array.any_eq_true'] at h
   obtain ⟨e, he, hb⟩ := h
   simp only [Bool.and_eq_true, beq_iff_eq] at hb
   exact ⟨o, e, rfl, he, hb.1, hb.2⟩
theorem xq {i j : Nat} {L : Array Bool} (hi : i ∈ Region.ready md ops L) (hj : j ∈ Region.ready md ops L) : ∃ o, ops[j]? = some o ∧ ∀ e ∈ o.after, Region.binds md e = true → e.on ≠ i := by
 obtain ⟨_, o, ho, hall⟩ := mem_ready.1 hj
 refine ⟨o, ho, fun e he hb heq => ?_⟩
 have h1 := hall e he hb
 have h0 := (mem_ready.1 hi).1
 rw [heq] at h1
 by_cases hs : i < L.size
 · rw [Array.getD_eq_getD_getElem?, Array.getElem?_eq_getElem hs] at h0 h1
   simp at h0 h1
   rw [h0] at h1
   cases h1
 · rw [Array.getD_eq_getD_getElem?, Array.getElem?_eq_none (by omega)] at h1
   simp at h1
theorem Until.first {i : Nat} {oi : Oper} {v : Value} (hi : ops[i]? = some oi) (hs : Region.noSelect ops = true) (hQ : ∀ c a w, Q (.panic c) (a.put oi.dst v) w → Q (.panic c) a w) (hm : waits md ops m i = true) :
 ∀ (f : Nat) (L : Array Bool) (a : Act) (w : World),
   (∀ j oj, ops[j]? = some oj → j ≠ i → L.getD j true = false → (∀ e ∈ oj.after, Region.binds md e = true → e.on ≠ i) → oi.apart ops oj = true) →
   i ∈ Region.ready md ops L → L.getD m true = false → YieldsIf P ops S oi v a → S w →
   Until P md ops Q S m f (L.setIfInBounds i true) (a.put oi.dst v) w → Until P md ops Q S m (f + 1) L a w := by
 obtain ⟨om, em, hom, hem, hbm, X7⟩ := Gz hm
 intro f
 induction f with
 | zero =>
   intro L a w hf hr hu hy hS H
   refine ⟨fun h => (by rw [h] at hr; cases hr), fun j hj => ?_⟩
   by_cases hji : j = i
   · subst hji; exact hy.wpOp hi hS ⟨fun _ => hS, H⟩
   · have h := ready_mono hj hji
     rw [H.1] at h
     cases h
 | succ f ih =>
   intro L a w hf hr hu hy hS H
   refine ⟨fun h => (by rw [h] at hr; cases hr), fun j hj => ?_⟩
   by_cases hji : j = i
   · subst hji; exact hy.wpOp hi hS ⟨fun _ => hS, H⟩
   · obtain ⟨oj, hoj, hno⟩ := xq hr hj
     have hjm : j ≠ m := fun e => by
      subst e
      rw [hom] at hoj
      injection hoj with hoj
      subst hoj
      exact hno em hem hbm X7
     have him : i ≠ m := fun e => by
      subst e
      obtain ⟨o', ho', hn'⟩ := xq hr hr
      rw [hom] at ho'
      injection ho' with ho'
      subst ho'
      exact hn' em hem hbm X7
     have hun := (mem_ready.1 hj).1
     have h2 := wpOp_putIf hoj (hf j oj hoj hji hun hno) (fun cs b => Region.noSelect_spec hs i oi cs b hi) (fun cs b => Region.noSelect_spec hs j oj cs b hoj) hQ hy (H.2 j (ready_mono hj hji))
     refine wpOp_mono (fun a' w' h3 => ?_) h2
     obtain ⟨hy', hS', H'⟩ := h3
     have hu' : (L.setIfInBounds j true).getD m true = false := by rw [getD_set_ne true hjm]; exact hu
     have hSw : S w' := hS' (by rw [getD_set_ne true hjm, getD_set_ne true him]; exact hu)
     refine ⟨fun _ => hSw, ih _ a' w' ?_ (ready_mono hr (Ne.symm hji)) hu' hy' hSw ?_⟩
     · intro k ok hk hki hku hkn
       refine hf k ok hk hki ?_ hkn
       by_cases hjk : j = k
       · subst hjk; exact hun
       · rw [getD_set_ne true hjk] at hku; exact hku
     · rw [Array.setIfInBounds_comm _ _ hji]
       exact H'
theorem Until.take {i : Nat} {oi : Oper} {v : Value} {f : Nat} {L : Array Bool} {a : Act} {w : World} (hi : ops[i]? = some oi)
 (hs : Region.noSelect ops = true) (hf : Region.free md ops L i = true) (hr : (Region.ready md ops L).contains i = true) (hm : waits md ops m i = true) (hu : L.getD m true = false)
 (hQ : ∀ c a w, Q (.panic c) (a.put oi.dst v) w → Q (.panic c) a w) (hy : YieldsIf P ops S oi v a) (hS : S w)
 (h : Until P md ops Q S m f (L.setIfInBounds i true) (a.put oi.dst v) w) : Until P md ops Q S m (f + 1) L a w :=
 Until.first hi hs hQ hm f L a w (Region.free_spec hi hf) (by simpa using hr) hu hy hS h
theorem Until.one {i : Nat} {o : Oper} {f : Nat} {L : Array Bool} {a : Act} {w : World} (hr : Region.ready md ops L = [i]) (ho : ops[i]? = some o)
 (h : ∀ K' : Act → World → Prop, Shut (∀ a w, ((L.setIfInBounds i true).getD m true = false → S w) → Until P md ops Q S m f (L.setIfInBounds i true) a w → K' a w) → if Region.wanted o (yielded ops a.tmps) = true then Oper.wp P o a w K' Q else K' (a.put o.dst undef) w) :
 Until P md ops Q S m (f + 1) L a w := by
 refine ⟨fun h0 => (by rw [hr] at h0; cases h0), fun j hj => ?_⟩
 rw [hr] at hj
 obtain rfl := List.mem_singleton.1 hj
 have h1 := h (fun a' w' => ((L.setIfInBounds j true).getD m true = false → S w') ∧ Until P md ops Q S m f (L.setIfInBounds j true) a' w') (fun a w hS hU => ⟨hS, hU⟩)
 unfold wpOp
 simp only [ho]
 split
 · rename_i hw
   rw [if_pos hw] at h1
   exact .inl h1
 · rename_i hw
   rw [if_neg hw] at h1
   exact h1
theorem Until.done {L : Array Bool} {a : Act} {w : World} (hr : Region.ready md ops L = []) (h : Q .normal a w) : ∀ f, Until P md ops Q S m f L a w
 | 0 => ⟨hr, h⟩
 | _ + 1 => ⟨fun _ => h, by rw [hr]; simp⟩
theorem uV {id : Nat} {a : Act} {w : World} (S : World → Prop) (m : Nat) (hm : P.follows .mixedOrders = true) (hS : S w.drew) (h : S w.drew → Until P .any ops (NoPanic Q) S m ops.size (Array.replicate ops.size false) a w.drew) : (Code.region id ops true).wp P Q a w :=
 wp_region_noPanic (wp_region_any hm (Until.any _ _ _ _ (h hS)))
end
end Go.Proofs.Ytnijhjbcjeohhaa.KK

