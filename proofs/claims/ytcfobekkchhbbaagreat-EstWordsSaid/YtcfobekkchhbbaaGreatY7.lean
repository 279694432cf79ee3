import Derived.Test.YtcfobekkchhbbaaGreatY6
/- Joined and thinned by a program of this session's own (wip/pack2.py) out of its texts (wip/ of its repo); parts were laid by its own program (wip/print-patch.py over the kit's print) out of the translation; Lean checks all. -/
set_option maxRecDepth 100000
set_option maxHeartbeats 8000000
namespace Go.Proofs.YtcfobekkchhbbaaGreat.PR
open Go.RowKit Go.Proofs.YtcfobekkchhbbaaGreat.PQ Go.Proofs.af.aQ Go.Proofs.af.a_ Go.Proofs.af.bg
attribute [local go_sem] iJ iH jI jH gV gU iI iG
set_option linter.unusedVariables false
set_option linter.unusedSimpArgs false
def bZ.l0 : Nat → Int → Int → Int → Int → List Int → Option (Int × Int × List Int)
 | 0, _, _, _, _, _ => none
 | k + 1, x14, x15, LJ, uT, zX => if x15 < x14 then (if 0 ≤ (wrap64 ((wrap64 (x15 * uT)) + x15)) then (if (wrap64 ((wrap64 (x15 * uT)) + x15)) < (zX.length : Int) then (bZ.l0 k x14 (wrap64 (x15 + 1)) LJ uT (zX.set ((wrap64 ((wrap64 (x15 * uT)) + x15)) : Int).toNat (mx (rd zX (wrap64 ((wrap64 (x15 * uT)) + x15))) 0))) else (none)) else (none)) else (some (LJ, uT, zX))
def bZ.f (k : Nat) (aZ : Int) (bn : Int) (bf : List Int) : Option (Int × Int × List Int) := (pq.f aZ bn bf).bind fun xW => (bZ.l0 k xW.1 0 xW.1 xW.2.1 xW.2.2.1)
def bZ.T5 : Bool × List (List Nat × List Nat) := (true, [([], []), ([0], [0]), ([], []), ([], []), ([3], [3]), ([2, 4], [2, 4]), ([], []), ([5, 6], [5, 6]), ([], []), ([8], [8]), ([], []), ([], []), ([11], [11]), ([10, 12], [10, 12]), ([], []), ([13, 14], [13, 14]), ([9, 15], [9, 15]), ([16], [16]), ([17], [17]), ([1, 7, 0, 1, 2, 3, 4, 5, 6, 7, 8, 9, 10, 11, 12, 13, 14, 15, 16, 17, 18], [1, 7]), ([19, 18, 0, 1, 2, 3, 4, 5, 6, 7, 8, 9, 10, 11, 12, 13, 14, 15, 16, 17, 18], [18, 19])])
def bZ.B5 : List Nat := [0, 1, 0, 0, 8, 28, 0, 124, 0, 256, 0, 0, 2048, 7168, 0, 31744, 65280, 130816, 261888, 524287, 1048575]
theorem bZ.aef : o9 .any (opsOf Tryz.f155 5) = bZ.T5 := by kernel_rfl
theorem bZ.aad : qV bZ.T5.2 bZ.B5 = true := by kernel_rfl
theorem bZ.calls (k : Nat) (aZ : Int) (bn : Int) (bU : Option Addr) (bT : Nat) (bf : List Int) (r1 : Int) (r2 : Int) (r3 : List Int) (w : World) (iV : Kd.C (Kd.int .i64) w bU bf.length bf) (jy : bf.length ≤ bT) (h : bZ.f k aZ bn bf = some (r1, r2, r3)) :
 Calls Tryz.prog 155 #[.agg #[.int .i64 aZ, .int .i64 bn, .slice bU bf.length bT]] w fun e w' => ∃ DY : Value, e = .returned (.agg #[.int .i64 r1, .int .i64 r2, DY]) ∧ Kd.R (Kd.int .i64) 22 w' w.heap.size (fun _ => True) DY r3 ∧ Below w.heap.size w w' := by
 have DK := Tryz.underlying29
 have lY := aj.mk iV
 have oq := aj.mk jy
 clear iV jy
 have HB := aj.mk (Below.refl w.heap.size w)
 have H : ((pq.f aZ bn bf).bind fun xW => (bZ.l0 k xW.1 0 xW.1 xW.2.1 xW.2.2.1)) = some (r1, r2, r3) := h
 clear h
 replace H := Option.bind_eq_some_iff.mp H
 obtain ⟨⟨t139, t140, t141, t144, t145⟩, A20, H⟩ := H
 replace H : (bZ.l0 k t139 0 t139 t140 t141) = some (r1, r2, r3) := H
 have A2 := aj.mk A20
 clear A20
 have H' := aj.mk H
 clear H
 go_enter Tryz.func155, Tryz.ntmps155
 go_wp2_with (first | ((with_reducible refine dI (N := 1) rfl ?_); refine cZ ?hg (N := 1) ?hd (cs := #[.int .i64 aZ, .int .i64 bn, .slice bU bf.length bT]) (t := 29) ?hr ?_; (case hd => rfl); (case hg => rfl); (case hr => first | (go_simp; done) | (go_simp; rfl)); intro nP hg w3 hbox hb; have bK := aj.mk (aV (by repeat (first | (with_reducible first | exact HB.out | apply ak | apply ah | apply au) | exact HB.out)) hb); have dW := aj.mk (hbox); have eG := aj.mk ((by rw [hg]; exact (bz (by repeat (first | (with_reducible first | exact HB.out | apply ak | apply ah | apply au) | exact HB.out))) : w.heap.size ≤ nP)); have fP := aj.mk ((by rw [hg]; exact (bz (by repeat (first | (with_reducible first | exact HB.out | apply ak | apply ah | apply au) | exact HB.out))) : w.heap.size ≤ nP)); clear HB; have HB := bK; have jC := dW; have aiF := eG; have uK := fP; clear bK dW eG fP; clear hb hbox hg) | ((with_reducible refine dI (N := 2) rfl ?_); refine cZ ?hg (N := 2) ?hd (cs := #[.int .i64 0, .int .i64 0, .slice none 0 0]) (t := 29) ?hr ?_; (case hd => rfl); (case hg => rfl); (case hr => first | (go_simp; done) | (go_simp; rfl)); intro nD hg w4 hbox hb; have bK := aj.mk (bI (g := nP) (o := .cells #[.int .i64 aZ, .int .i64 bn, .slice bU bf.length bT] 29 (0, 0)) (by (with_reducible repeat (first | refine aC ?_ _ | refine aH ?_ | refine aG ?_ _)); exact jC.out) hb); have dW := aj.mk (aV (by repeat (first | (with_reducible first | exact HB.out | apply ak | apply ah | apply au | refine aA ?_ uK.out) | exact HB.out)) hb); have eG := aj.mk (hbox); have fP := aj.mk ((by rw [hg]; exact (bz (by repeat (first | (with_reducible first | exact HB.out | apply ak | apply ah | apply au | refine aA ?_ uK.out) | exact HB.out))) : w.heap.size ≤ nD)); have jR := aj.mk ((by rw [hg]; exact (bz (by repeat (first | (with_reducible first | exact HB.out | apply ak | apply ah | apply au | refine aA ?_ uK.out) | exact HB.out))) : w.heap.size ≤ nD)); have jV := aj.mk ((by rw [hg]; exact Nat.ne_of_lt (eu (g := nP) (o := .cells #[.int .i64 aZ, .int .i64 bn, .slice bU bf.length bT] 29 (0, 0)) (by (with_reducible repeat (first | refine aC ?_ _ | refine aH ?_ | refine aG ?_ _)); exact jC.out)) : nP ≠ nD)); have kQ := aj.mk ((by rw [hg]; exact Nat.ne_of_gt (eu (g := nP) (o := .cells #[.int .i64 aZ, .int .i64 bn, .slice bU bf.length bT] 29 (0, 0)) (by (with_reducible repeat (first | refine aC ?_ _ | refine aH ?_ | refine aG ?_ _)); exact jC.out)) : nD ≠ nP)); clear jC; clear HB; have jC := bK; have HB := dW; have jU := eG; have aiE := fP; have zL := jR; have EG := jV; have EF := kQ; clear bK dW eG fP jR jV kQ; clear hb hbox hg; have ajx := EG.out; have aju := EF.out; have um : w4.cell? ⟨nP, 0, none⟩ = some (.int .i64 aZ) := (az jC.out 0).trans rfl; have uk : w4.cell? ⟨nP, 1, none⟩ = some (.int .i64 bn) := (az jC.out 1).trans rfl; have wV : w4.cell? ⟨nP, 2, none⟩ = some (.slice bU bf.length bT) := (az jC.out 2).trans rfl; have ug := ay jC.out 0; have uf := ay jC.out 1; have wU := ay jC.out 2) | ((with_reducible refine aK (f := 188) rfl ?_); refine bC (some 9) rfl rfl Tryz.func188 (by kernel_rfl) rfl #[.agg #[.int .i64 aZ, .int .i64 bn, .slice bU bf.length bT]] rfl (by (try simp only [List.map_toArray, List.map_cons, List.map_nil]); first | done | rfl | (simp only [List.length_drop, List.length_take]; rfl)) ?_; (with_reducible refine (pq.calls aZ bn _ _ bf t139 t140 t141 t144 t145 _ ?gm ?f_ A2.out).mono ?_); (case gm => repeat (first | exact (Kd.fQ lY.out HB.out) | (with_reducible refine Kd.gZ ?_ _) | (with_reducible refine Kd.gY ?_ _) | (with_reducible refine Kd.jh ?_))); (case f_ => exact oq.out); rintro e w7 ⟨ai1, rfl, ho0, hb⟩; refine ⟨_, rfl, ?_⟩; have bK := aj.mk (Kd.qB ho0 (bz (by repeat (first | (with_reducible first | exact HB.out | apply ak | apply ah | apply au | refine aA ?_ uK.out | refine aA ?_ zL.out) | exact HB.out)))); have dW := aj.mk (bI (g := nP) (o := .cells #[.int .i64 aZ, .int .i64 bn, .slice bU bf.length bT] 29 (0, 0)) (by (with_reducible repeat (first | refine aC ?_ _ | refine aH ?_ | refine aG ?_ _)); exact jC.out) hb); have eG := aj.mk (bI (g := nD) (o := .cells #[.int .i64 0, .int .i64 0, .slice none 0 0] 29 (0, 0)) (by (with_reducible repeat (first | refine aC ?_ _ | refine aH ?_ | refine aG ?_ _)); exact jU.out) hb); have fP := aj.mk (aV (by repeat (first | (with_reducible first | exact HB.out | apply ak | apply ah | apply au | refine aA ?_ uK.out | refine aA ?_ zL.out) | exact HB.out)) hb); clear jC; clear jU; clear HB; have Jv := bK; have jC := dW; have jU := eG; have HB := fP; clear bK dW eG fP; (try clear hb); (try clear hb2); (try clear hk); (try clear hi); (try clear ho0)) | ((with_reducible refine dI (N := 3) rfl ?_); refine cZ ?hg (N := 3) ?hd (cs := #[.int .i64 0, .int .i64 0, .slice none 0 0]) (t := 29) ?hr ?_; (case hd => rfl); (case hg => rfl); (case hr => first | (go_simp; done) | (go_simp; rfl)); intro mY hg w8 hbox hb; have bK := aj.mk (Kd.oN (by (with_reducible repeat (first | apply Kd.gI | apply Kd.gG | apply Kd.iL)); exact Jv.out) hb); have dW := aj.mk (bI (g := nP) (o := .cells #[.int .i64 aZ, .int .i64 bn, .slice bU bf.length bT] 29 (0, 0)) (by (with_reducible repeat (first | refine aC ?_ _ | refine aH ?_ | refine aG ?_ _)); exact jC.out) hb); have eG := aj.mk (bI (g := nD) (o := .cells #[.int .i64 0, .int .i64 0, .slice none 0 0] 29 (0, 0)) (by (with_reducible repeat (first | refine aC ?_ _ | refine aH ?_ | refine aG ?_ _)); exact jU.out) hb); have fP := aj.mk (aV (by repeat (first | (with_reducible first | exact HB.out | apply ak | apply ah | apply au | refine aA ?_ uK.out | refine aA ?_ zL.out) | exact HB.out)) hb); have jR := aj.mk (hbox); have jV := aj.mk ((by rw [hg]; exact (bz (by repeat (first | (with_reducible first | exact HB.out | apply ak | apply ah | apply au | refine aA ?_ uK.out | refine aA ?_ zL.out) | exact HB.out))) : w.heap.size ≤ mY)); have kQ := aj.mk ((by rw [hg]; exact (bz (by repeat (first | (with_reducible first | exact HB.out | apply ak | apply ah | apply au | refine aA ?_ uK.out | refine aA ?_ zL.out) | exact HB.out))) : w.heap.size ≤ mY)); have wC := aj.mk ((by rw [hg]; exact Nat.ne_of_lt (eu (g := nP) (o := .cells #[.int .i64 aZ, .int .i64 bn, .slice bU bf.length bT] 29 (0, 0)) (by (with_reducible repeat (first | refine aC ?_ _ | refine aH ?_ | refine aG ?_ _)); exact jC.out)) : nP ≠ mY)); have zi := aj.mk ((by rw [hg]; exact Nat.ne_of_gt (eu (g := nP) (o := .cells #[.int .i64 aZ, .int .i64 bn, .slice bU bf.length bT] 29 (0, 0)) (by (with_reducible repeat (first | refine aC ?_ _ | refine aH ?_ | refine aG ?_ _)); exact jC.out)) : mY ≠ nP)); have Mc := aj.mk ((by rw [hg]; exact Nat.ne_of_lt (eu (g := nD) (o := .cells #[.int .i64 0, .int .i64 0, .slice none 0 0] 29 (0, 0)) (by (with_reducible repeat (first | refine aC ?_ _ | refine aH ?_ | refine aG ?_ _)); exact jU.out)) : nD ≠ mY)); have xG := aj.mk ((by rw [hg]; exact Nat.ne_of_gt (eu (g := nD) (o := .cells #[.int .i64 0, .int .i64 0, .slice none 0 0] 29 (0, 0)) (by (with_reducible repeat (first | refine aC ?_ _ | refine aH ?_ | refine aG ?_ _)); exact jU.out)) : mY ≠ nD)); clear Jv; clear jC; clear jU; clear HB; have Jv := bK; have jC := dW; have jU := eG; have HB := fP; have jT := jR; have aiD := jV; have Si := kQ; have qP := wC; have EC := zi; have qO := Mc; have Ez := xG; clear bK dW eG fP jR jV kQ wC zi Mc xG; clear hb hbox hg; have ajw := EC.out; have ajt := qP.out; have Zz := Ez.out; have Zw := qO.out; have Az : w8.cell? ⟨mY, 0, none⟩ = some (.int .i64 0) := (az jT.out 0).trans rfl; have Aw : w8.cell? ⟨mY, 1, none⟩ = some (.int .i64 0) := (az jT.out 1).trans rfl; have Au : w8.cell? ⟨mY, 2, none⟩ = some (.slice none 0 0) := (az jT.out 2).trans rfl; have Ar := ay jT.out 0; have Aj := ay jT.out 1; have Ad := ay jT.out 2; obtain ⟨abJ, ZR, afs⟩ := Kd.m_ Jv.out; subst afs))
 go_loopg [15] k (fun kq v15 w' => ∃ (jq : Int) (fD : List Int) (u147002 : Value), v15 = .int .i64 jq ∧ aj (bZ.l0 kq t139 jq t139 t140 fD = some (r1, r2, r3)) ∧ aj (kq ≤ k) ∧ aj (Kd.R (Kd.int .i64) 22 w' w.heap.size (fun _ => True) u147002 fD) ∧ aj (w'.heap[nP]? = some (.cells #[.int .i64 aZ, .int .i64 bn, (.slice bU bf.length bT)] 29 (0, 0))) ∧ aj (w'.heap[nD]? = some (.cells #[.int .i64 0, .int .i64 0, (.slice none 0 0)] 29 (0, 0))) ∧ aj (w'.heap[mY]? = some (.cells #[.int .i64 t139, .int .i64 t140, u147002] 29 (0, 0))) ∧ aj (Below w.heap.size w w'))
 case atStart => exact ⟨(0), (t141), (.slice abJ t141.length ZR), (by first | rfl | (simp; done) | (simp [*]; done)), H', ⟨Nat.le_refl _⟩, ⟨by (with_reducible repeat (first | apply Kd.gI | apply Kd.gG | apply Kd.iL)); exact Kd.kJ (Kd.lT (p := ⟨mY, 2, none⟩) (Kd.lT (p := ⟨mY, 1, none⟩) (Kd.lT (p := ⟨mY, 0, none⟩) (Kd.rW Jv.out jT.out (by decide)) (fun _ hk => hk.2) (.int .i64 t139)) (fun _ hk => hk.2) (.int .i64 t140)) (fun _ hk => hk.2) (.slice abJ t141.length ZR)) (fun _ hk => trivial)⟩, ⟨by (with_reducible repeat (first | refine aC ?_ _ | refine aH ?_ | refine aG ?_ _)); refine lF ?_ qP.out _; (with_reducible repeat (first | refine aC ?_ _ | refine aH ?_ | refine aG ?_ _)); refine lF ?_ qP.out _; (with_reducible repeat (first | refine aC ?_ _ | refine aH ?_ | refine aG ?_ _)); refine lF ?_ qP.out _; (with_reducible repeat (first | refine aC ?_ _ | refine aH ?_ | refine aG ?_ _)); exact jC.out⟩, ⟨by (with_reducible repeat (first | refine aC ?_ _ | refine aH ?_ | refine aG ?_ _)); refine lF ?_ qO.out _; (with_reducible repeat (first | refine aC ?_ _ | refine aH ?_ | refine aG ?_ _)); refine lF ?_ qO.out _; (with_reducible repeat (first | refine aC ?_ _ | refine aH ?_ | refine aG ?_ _)); refine lF ?_ qO.out _; (with_reducible repeat (first | refine aC ?_ _ | refine aH ?_ | refine aG ?_ _)); exact jU.out⟩, ⟨by (with_reducible repeat (first | refine aC ?_ _ | refine aH ?_ | refine aG ?_ _)); refine fH (cs := #[.int .i64 t139, .int .i64 t140, .slice none 0 0]) ?_ 2 _ rfl; (with_reducible repeat (first | refine aC ?_ _ | refine aH ?_ | refine aG ?_ _)); refine fH (cs := #[.int .i64 t139, .int .i64 0, .slice none 0 0]) ?_ 1 _ rfl; (with_reducible repeat (first | refine aC ?_ _ | refine aH ?_ | refine aG ?_ _)); refine fH (cs := #[.int .i64 0, .int .i64 0, .slice none 0 0]) ?_ 0 _ rfl; (with_reducible repeat (first | refine aC ?_ _ | refine aH ?_ | refine aG ?_ _)); exact jT.out⟩, ⟨by repeat (first | (with_reducible first | exact HB.out | apply ak | apply ah | apply au | refine aA ?_ uK.out | refine aA ?_ zL.out | refine aA ?_ Si.out) | exact HB.out)⟩⟩
 case round =>
  clear H'
  try clear c1
  try clear p2
  try clear c5
  try clear c9
  try clear c10
  try clear Az
  try clear Aw
  try clear Au
  try clear um
  try clear uk
  try clear wV
  try clear Ar
  try clear Aj
  try clear Ad
  try clear ug
  try clear uf
  try clear wU
  obtain ⟨jq, fD, u147002, rfl, HA, EI, iq, jC, jU, jT, HB⟩ := hrel
  cases gk with
  | zero => exact absurd HA.out (by simp [bZ.l0])
  | succ k1 =>
    have H := HA.out
    clear HA
    simp only [bZ.l0] at H
    by_cases c13 : jq < t139
    · rw [if_pos c13] at H
      have wM : decide (jq < t139) = true := decide_eq_true c13
      clear c13
      obtain ⟨pG, Qs⟩ : ∃ j_ : Int, (wrap64 ((wrap64 (jq * t140)) + jq)) = j_ := ⟨_, rfl⟩
      replace H : (if 0 ≤ (pG) then (if (pG) < (fD.length : Int) then (bZ.l0 k1 t139 (wrap64 (jq + 1)) t139 t140 (fD.set ((pG) : Int).toNat (mx (rd fD (pG)) 0))) else (none)) else (none)) = some (r1, r2, r3) := by first | (rw [Qs] at H; exact H) | (simp only [Qs] at H ⊢; exact H)
      have aeV : (IntKind.i64.wrap ((wrap64 (jq * t140)) + jq)) = pG := (dB _).trans Qs
      by_cases c15 : 0 ≤ (pG)
      · rw [if_pos c15] at H
        have Q7 : decide (0 ≤ (pG)) = true := decide_eq_true c15
        clear c15
        by_cases c16 : (pG) < (fD.length : Int)
        · rw [if_pos c16] at H
          have Ej : decide ((pG) < (fD.length : Int)) = true := decide_eq_true c16
          clear c16
          obtain ⟨jE, pI⟩ : ∃ j_ : Int, (mx (rd fD (pG)) 0) = j_ := ⟨_, rfl⟩
          replace H : (bZ.l0 k1 t139 (wrap64 (jq + 1)) t139 t140 (fD.set ((pG) : Int).toNat (jE))) = some (r1, r2, r3) := by first | (rw [pI] at H; exact H) | (simp only [pI] at H ⊢; exact H)
          have Xk : (if (rd fD (pG)) < 0 then 0 else (rd fD (pG))) = jE := pI
          obtain ⟨YS, IP⟩ : ∃ y_ : List Int, y_ = (fD.set ((pG) : Int).toNat (jE)) := ⟨_, rfl⟩
          replace H : (bZ.l0 k1 t139 (wrap64 (jq + 1)) t139 t140 YS) = some (r1, r2, r3) := by first | (rw [IP]; with_reducible exact H) | (have Yp := (Option.bind_some _ _).symm.trans H; rw [IP]; with_reducible exact Yp) | (have Yp := (Option.bind_some _ _).symm.trans H; with_reducible exact Yp) | with_reducible exact H | (rw [IP]; exact H) | exact H
          have aaZ := aj.mk IP
          clear IP
          have H' := aj.mk H
          clear H
          try go_wp2
          have bK := aj.mk (Kd.iL iq.out)
          have dW := aj.mk (aH jC.out)
          have eG := aj.mk (aH jU.out)
          have fP := aj.mk (aH jT.out)
          have jR := aj.mk (au HB.out)
          clear iq
          clear jC
          clear jU
          clear jT
          clear HB
          have iq := bK
          have jC := dW
          have jU := eG
          have jT := fP
          have HB := jR
          clear bK dW eG fP jR
          obtain ⟨Vz, OZ, QN⟩ := Kd.m_ iq.out
          (first | subst QN | (injection QN with Jc QH Jb; have QG := Jc.symm; have QF := Jb.symm; clear Jc QH Jb; subst QG; subst QF))
          have WN : 0 ≤ ((pG) : Int) := of_decide_eq_true (by first | (with_reducible assumption) | assumption)
          have WL : (pG) < (fD.length : Int) := of_decide_eq_true (by first | (with_reducible assumption) | assumption)
          obtain ⟨ahw, afy, FV⟩ := Kd.kH (Kd.pR iq.out).2.2 (pG) WN WL
          cases afy
          replace WN := eq_true WN
          replace WL := eq_true WL
          have p18 : 0 ≤ ((pG) : Int) := of_decide_eq_true (by first | (with_reducible assumption) | assumption)
          have q18 : ((pG) : Int) < ((fD.length : Int) : Int) := of_decide_eq_true (by first | (with_reducible assumption) | assumption)
          obtain ⟨Xo, U9, QO, ZH, afm, ajZ, abp⟩ := Kd.XK iq.out (by omega)
          (first | cases QO | (injection QO with ea_ en_ ec_; (first | subst ea_ | (injection ea_ with ea_; subst ea_)); subst ec_; clear en_))
          have agy := aj.mk ZH
          have agx := aj.mk abp
          clear ZH afm abp
          (first | simp only [add_plain] at FV | skip)
          obtain ⟨Xe, Xm⟩ := Kd.Vh 0 iq.out ((pG) : Int) p18 q18
          replace p18 := eq_true p18
          replace q18 := eq_true q18
          have Yg := Kd.XI iq.out ((pG) : Int) jE
          rw [← aaZ.out] at Yg
          have abl := aj.mk Yg
          clear Yg
          refine Ff (n := 21) (S := fun w' => w'.cell? ⟨mY, 0, none⟩ = some (.int .i64 t139) ∧ w'.cell? ⟨mY, 1, none⟩ = some (.int .i64 t140) ∧ w'.cell? ⟨mY, 2, none⟩ = some (.slice (some ⟨Xo, 0, none⟩) fD.length OZ) ∧ w'.cell? ⟨Xo, ((pG)).toNat, none⟩ = some (.int .i64 (rd fD (pG)))) (ds := [20]) #[false, false, false, false, false, false, false, false, false, false, false, false, false, false, false, false, false, false, false, false, false] (by kernel_rfl) rfl rfl ⟨(az jT.out 0).trans rfl, (az jT.out 1).trans rfl, (az jT.out 2).trans rfl, FV⟩ (fun hHeld => ?_); refine uU bZ.aef bZ.aad (fun kK Ju => ?_)
          generalize wr.drew = w19 at iq jC jU jT HB agx abl Xm FV Xe hHeld ⊢
          refine gz (i := 0) (N := some 18) (v := ?_) (a' := ?_) #[true, false, false, false, false, false, false, false, false, false, false, false, false, false, false, false, false, false, false, false, false] rfl rfl (dZ kK.out (by kernel_rfl)) (fun _ _ _ h => h) (Or.inl ⟨by rfl, ?_⟩) ?_ ?_
          rotate_left
          · intro w'
            go_simp
            with_reducible rfl
          rotate_left
          · simp only [Act.put, List.setIfInBounds_toArray, List.set_cons_zero, List.set_cons_succ, dB, dD]
            rfl
          refine gz (i := 2) (N := some 20) (v := ?_) (a' := ?_) #[true, false, true, false, false, false, false, false, false, false, false, false, false, false, false, false, false, false, false, false, false] rfl rfl (dZ kK.out (by kernel_rfl)) (fun _ _ _ h => h) (Or.inl ⟨by rfl, ?_⟩) ?_ ?_
          rotate_left
          · intro w'
            go_simp
            with_reducible rfl
          rotate_left
          · simp only [Act.put, List.setIfInBounds_toArray, List.set_cons_zero, List.set_cons_succ, dB, dD]
            rfl
          refine gz (i := 3) (N := some 21) (v := ?_) (a' := ?_) #[true, false, true, true, false, false, false, false, false, false, false, false, false, false, false, false, false, false, false, false, false] rfl rfl (dZ kK.out (by kernel_rfl)) (fun _ _ _ h => h) (Or.inl ⟨by rfl, ?_⟩) ?_ ?_
          rotate_left
          · intro w'
            go_simp
            with_reducible rfl
          rotate_left
          · simp only [Act.put, List.setIfInBounds_toArray, List.set_cons_zero, List.set_cons_succ, dB, dD]
            rfl
          refine gz (i := 6) (N := some 24) (v := ?_) (a' := ?_) #[true, false, true, true, false, false, true, false, false, false, false, false, false, false, false, false, false, false, false, false, false] rfl rfl (dZ kK.out (by kernel_rfl)) (fun _ _ _ h => h) (Or.inl ⟨by rfl, ?_⟩) ?_ ?_
          rotate_left
          · intro w'
            go_simp
            with_reducible rfl
          rotate_left
          · simp only [Act.put, List.setIfInBounds_toArray, List.set_cons_zero, List.set_cons_succ, dB, dD]
            rfl
          refine gz (i := 8) (N := some 26) (v := ?_) (a' := ?_) #[true, false, true, true, false, false, true, false, true, false, false, false, false, false, false, false, false, false, false, false, false] rfl rfl (dZ kK.out (by kernel_rfl)) (fun _ _ _ h => h) (Or.inl ⟨by rfl, ?_⟩) ?_ ?_
          rotate_left
          · intro w'
            go_simp
            with_reducible rfl
          rotate_left
          · simp only [Act.put, List.setIfInBounds_toArray, List.set_cons_zero, List.set_cons_succ, dB, dD]
            rfl
          refine gz (i := 10) (N := some 28) (v := ?_) (a' := ?_) #[true, false, true, true, false, false, true, false, true, false, true, false, false, false, false, false, false, false, false, false, false] rfl rfl (dZ kK.out (by kernel_rfl)) (fun _ _ _ h => h) (Or.inl ⟨by rfl, ?_⟩) ?_ ?_
          rotate_left
          · intro w'
            go_simp
            with_reducible rfl
          rotate_left
          · simp only [Act.put, List.setIfInBounds_toArray, List.set_cons_zero, List.set_cons_succ, dB, dD]
            rfl
          refine gz (i := 11) (N := some 29) (v := ?_) (a' := ?_) #[true, false, true, true, false, false, true, false, true, false, true, true, false, false, false, false, false, false, false, false, false] rfl rfl (dZ kK.out (by kernel_rfl)) (fun _ _ _ h => h) (Or.inl ⟨by rfl, ?_⟩) ?_ ?_
          rotate_left
          · intro w'
            go_simp
            with_reducible rfl
          rotate_left
          · simp only [Act.put, List.setIfInBounds_toArray, List.set_cons_zero, List.set_cons_succ, dB, dD]
            rfl
          refine gz (i := 14) (N := some 32) (v := ?_) (a' := ?_) #[true, false, true, true, false, false, true, false, true, false, true, true, false, false, true, false, false, false, false, false, false] rfl rfl (dZ kK.out (by kernel_rfl)) (fun _ _ _ h => h) (Or.inl ⟨by rfl, ?_⟩) ?_ ?_
          rotate_left
          · intro w'
            go_simp
            with_reducible rfl
          rotate_left
          · simp only [Act.put, List.setIfInBounds_toArray, List.set_cons_zero, List.set_cons_succ, dB, dD]
            rfl
          refine pY (i := 1) (N := some 19) (v := ?_) (a' := ?_) #[true, true, true, true, false, false, true, false, true, false, true, true, false, false, true, false, false, false, false, false, false] rfl rfl (iR kK.out Ju.out (by kernel_rfl)) (fun _ _ _ h => h) (Or.inl ⟨by rfl, ?_⟩) hHeld ?_ ?_
          rotate_left
          · rintro w' ⟨s0, s1, s2, s3⟩
            go_simp
            with_reducible rfl
          rotate_left
          · simp only [Act.put, List.setIfInBounds_toArray, List.set_cons_zero, List.set_cons_succ, dB, dD]
            rfl
          refine pY (i := 4) (N := some 22) (v := ?_) (a' := ?_) #[true, true, true, true, true, false, true, false, true, false, true, true, false, false, true, false, false, false, false, false, false] rfl rfl (iR kK.out Ju.out (by kernel_rfl)) (fun _ _ _ h => h) (Or.inl ⟨by rfl, ?_⟩) hHeld ?_ ?_
          rotate_left
          · rintro w' ⟨s0, s1, s2, s3⟩
            go_simp
            with_reducible rfl
          rotate_left
          · simp only [Act.put, List.setIfInBounds_toArray, List.set_cons_zero, List.set_cons_succ, dB, dD]
            rfl
          refine gz (i := 5) (N := some 23) (v := ?_) (a' := ?_) #[true, true, true, true, true, true, true, false, true, false, true, true, false, false, true, false, false, false, false, false, false] rfl rfl (dZ kK.out (by kernel_rfl)) (fun _ _ _ h => h) (Or.inl ⟨by rfl, ?_⟩) ?_ ?_
          rotate_left
          · intro w'
            go_simp
            with_reducible rfl
          rotate_left
          · simp only [Act.put, List.setIfInBounds_toArray, List.set_cons_zero, List.set_cons_succ, dB, dD]
            rfl
          refine gz (i := 7) (N := some 25) (v := ?_) (a' := ?_) #[true, true, true, true, true, true, true, true, true, false, true, true, false, false, true, false, false, false, false, false, false] rfl rfl (dZ kK.out (by kernel_rfl)) (fun _ _ _ h => h) (Or.inl ⟨by rfl, ?_⟩) ?_ ?_
          rotate_left
          · intro w'
            go_simp
            with_reducible rfl
          rotate_left
          · simp only [Act.put, List.setIfInBounds_toArray, List.set_cons_zero, List.set_cons_succ, dB, dD]
            rfl
          refine pY (i := 9) (N := some 27) (v := ?_) (a' := ?_) #[true, true, true, true, true, true, true, true, true, true, true, true, false, false, true, false, false, false, false, false, false] rfl rfl (iR kK.out Ju.out (by kernel_rfl)) (fun _ _ _ h => h) (Or.inl ⟨by rfl, ?_⟩) hHeld ?_ ?_
          rotate_left
          · rintro w' ⟨s0, s1, s2, s3⟩
            go_simp
            with_reducible rfl
          rotate_left
          · simp only [Act.put, List.setIfInBounds_toArray, List.set_cons_zero, List.set_cons_succ, dB, dD]
            rfl
          refine pY (i := 12) (N := some 30) (v := ?_) (a' := ?_) #[true, true, true, true, true, true, true, true, true, true, true, true, true, false, true, false, false, false, false, false, false] rfl rfl (iR kK.out Ju.out (by kernel_rfl)) (fun _ _ _ h => h) (Or.inl ⟨by rfl, ?_⟩) hHeld ?_ ?_
          rotate_left
          · rintro w' ⟨s0, s1, s2, s3⟩
            go_simp
            with_reducible rfl
          rotate_left
          · simp only [Act.put, List.setIfInBounds_toArray, List.set_cons_zero, List.set_cons_succ, dB, dD]
            rfl
          refine gz (i := 13) (N := some 31) (v := ?_) (a' := ?_) #[true, true, true, true, true, true, true, true, true, true, true, true, true, true, true, false, false, false, false, false, false] rfl rfl (dZ kK.out (by kernel_rfl)) (fun _ _ _ h => h) (Or.inl ⟨by rfl, ?_⟩) ?_ ?_
          rotate_left
          · intro w'
            go_simp
            with_reducible rfl
          rotate_left
          · simp only [Act.put, List.setIfInBounds_toArray, List.set_cons_zero, List.set_cons_succ, dB, dD]
            rfl
          refine gz (i := 15) (N := some 33) (v := ?_) (a' := ?_) #[true, true, true, true, true, true, true, true, true, true, true, true, true, true, true, true, false, false, false, false, false] rfl rfl (dZ kK.out (by kernel_rfl)) (fun _ _ _ h => h) (Or.inl ⟨by rfl, ?_⟩) ?_ ?_
          rotate_left
          · intro w'
            go_simp
            with_reducible rfl
          rotate_left
          · simp only [Act.put, List.setIfInBounds_toArray, List.set_cons_zero, List.set_cons_succ, dB, dD]
            rfl
          refine gz (i := 16) (N := some 34) (v := ?_) (a' := ?_) #[true, true, true, true, true, true, true, true, true, true, true, true, true, true, true, true, true, false, false, false, false] rfl rfl (dZ kK.out (by kernel_rfl)) (fun _ _ _ h => h) (Or.inl ⟨by rfl, ?_⟩) ?_ ?_
          rotate_left
          · intro w'
            go_simp
            with_reducible rfl
          rotate_left
          · simp only [Act.put, List.setIfInBounds_toArray, List.set_cons_zero, List.set_cons_succ, dB, dD]
            rfl
          refine pY (i := 17) (N := some 35) (v := ?_) (a' := ?_) #[true, true, true, true, true, true, true, true, true, true, true, true, true, true, true, true, true, true, false, false, false] rfl rfl (iR kK.out Ju.out (by kernel_rfl)) (fun _ _ _ h => h) (Or.inl ⟨by rfl, ?_⟩) hHeld ?_ ?_
          rotate_left
          · rintro w' ⟨s0, s1, s2, s3⟩
            go_simp
            with_reducible rfl
          rotate_left
          · simp only [Act.put, List.setIfInBounds_toArray, List.set_cons_zero, List.set_cons_succ, dB, dD]
            rfl
          refine gz (i := 18) (N := some 36) (v := ?_) (a' := ?_) #[true, true, true, true, true, true, true, true, true, true, true, true, true, true, true, true, true, true, true, false, false] rfl rfl (dZ kK.out (by kernel_rfl)) (fun _ _ _ h => h) (Or.inl ⟨by rfl, ?_⟩) ?_ ?_
          rotate_left
          · intro w'
            go_simp
            with_reducible rfl
          rotate_left
          · simp only [Act.put, List.setIfInBounds_toArray, List.set_cons_zero, List.set_cons_succ, dB, dD]
            rfl
          refine gz (i := 19) (N := some 37) (v := ?_) (a' := ?_) #[true, true, true, true, true, true, true, true, true, true, true, true, true, true, true, true, true, true, true, true, false] rfl rfl (dZ kK.out (by kernel_rfl)) (fun _ _ _ h => h) (Or.inl ⟨by rfl, ?_⟩) ?_ ?_
          rotate_left
          · intro w'
            go_simp
            with_reducible rfl
          rotate_left
          · simp only [Act.put, List.setIfInBounds_toArray, List.set_cons_zero, List.set_cons_succ, dB, dD]
            rfl
          refine Zi (i := 20) (N := none) #[true, true, true, true, true, true, true, true, true, true, true, true, true, true, true, true, true, true, true, true, true] rfl rfl (nX kK.out (by kernel_rfl)) (by decide) (fun K hK => ?_)
          refine VK (w1 := ?_) (by rfl) rfl ?_ ?_
          rotate_left
          · go_simp
            rfl
          refine hK.out _ _ ?_
          clear hK K
          refine MK (AA kK.out (by kernel_rfl)) ?_
          try go_wp2
          go_roundg k1
          case measure => have := EI.out; omega
          case rel => exact ⟨(wrap64 (jq + 1)), (YS), (.slice (some ⟨Xo, 0, none⟩) fD.length OZ), (by first | rfl | (simp; done) | (simp [*]; done)), H', ⟨by have := EI.out; omega⟩, ⟨by (with_reducible repeat (first | apply Kd.gI | apply Kd.gG | apply Kd.iL)); exact abl.out⟩, ⟨by (with_reducible repeat (first | refine aC ?_ _ | refine aH ?_ | refine aG ?_ _)); refine lF ?_ (by have h_ := Kd.DT iq.out jC.out (by decide); intro e_; exact h_ (by rw [e_]; rfl)) _; (with_reducible repeat (first | refine aC ?_ _ | refine aH ?_ | refine aG ?_ _)); exact jC.out⟩, ⟨by (with_reducible repeat (first | refine aC ?_ _ | refine aH ?_ | refine aG ?_ _)); refine lF ?_ (by have h_ := Kd.DT iq.out jU.out (by decide); intro e_; exact h_ (by rw [e_]; rfl)) _; (with_reducible repeat (first | refine aC ?_ _ | refine aH ?_ | refine aG ?_ _)); exact jU.out⟩, ⟨by (with_reducible repeat (first | refine aC ?_ _ | refine aH ?_ | refine aG ?_ _)); refine lF ?_ (by have h_ := Kd.DT iq.out jT.out (by decide); intro e_; exact h_ (by rw [e_]; rfl)) _; (with_reducible repeat (first | refine aC ?_ _ | refine aH ?_ | refine aG ?_ _)); exact jT.out⟩, ⟨by repeat (first | (with_reducible first | exact HB.out | apply ak | apply ah | apply au | refine aA ?_ agy.out | refine aA ?_ uK.out | refine aA ?_ zL.out | refine aA ?_ Si.out) | exact HB.out)⟩⟩
        · rw [if_neg c16] at H
          exact absurd H (by simp)
      · rw [if_neg c15] at H
        exact absurd H (by simp)
    · rw [if_neg c13] at H
      have wM : decide (jq < t139) = false := decide_eq_false c13
      clear c13
      simp only [Option.some.injEq, Prod.mk.injEq] at H
      obtain ⟨rfl, rfl, rfl⟩ := H
      have VT := EC.out
      have VR := qP.out
      have ag1 := Ez.out
      have agU := qO.out
      have Gx : wr.cell? ⟨mY, 0, none⟩ = some (.int .i64 t139) := (az jT.out 0).trans rfl
      have Gw : wr.cell? ⟨mY, 1, none⟩ = some (.int .i64 t140) := (az jT.out 1).trans rfl
      have Gv : wr.cell? ⟨mY, 2, none⟩ = some (u147002) := (az jT.out 2).trans rfl
      have F7 := ay jT.out 0
      have FY := ay jT.out 1
      have FW := ay jT.out 2
      have Zy := EF.out
      have Zv := EG.out
      have UA : wr.cell? ⟨nD, 0, none⟩ = some (.int .i64 0) := (az jU.out 0).trans rfl
      have Uz : wr.cell? ⟨nD, 1, none⟩ = some (.int .i64 0) := (az jU.out 1).trans rfl
      have Uy : wr.cell? ⟨nD, 2, none⟩ = some (.slice none 0 0) := (az jU.out 2).trans rfl
      have Uc := ay jU.out 0
      have Ub := ay jU.out 1
      have Ua := ay jU.out 2
      obtain ⟨abH, ZP, afq⟩ := Kd.m_ iq.out
      subst afq
      go_wp2
      refine bodyPost_ret (results_cell_row rfl _ _ nD 29 #[.int .i64 t139, .int .i64 t140, .slice abH fD.length ZP] (0, 0) _ rfl (by (with_reducible repeat (first | refine aC ?_ _ | refine aH ?_ | refine aG ?_ _)); refine fH (cs := #[.int .i64 t139, .int .i64 t140, .slice none 0 0]) ?_ 2 _ rfl; (with_reducible repeat (first | refine aC ?_ _ | refine aH ?_ | refine aG ?_ _)); refine fH (cs := #[.int .i64 t139, .int .i64 0, .slice none 0 0]) ?_ 1 _ rfl; (with_reducible repeat (first | refine aC ?_ _ | refine aH ?_ | refine aG ?_ _)); refine fH (cs := #[.int .i64 0, .int .i64 0, .slice none 0 0]) ?_ 0 _ rfl; (with_reducible repeat (first | refine aC ?_ _ | refine aH ?_ | refine aG ?_ _)); exact jU.out) Tryz.underlying29 rfl (by kernel_rfl)) rfl ?_
      exact ⟨_, by first | rfl | (simp [aU, aT] <;> rfl) | (simp [*, aU, aT] <;> rfl), by (with_reducible repeat (first | apply Kd.gI | apply Kd.gG | apply Kd.iL)); exact Kd.kJ (Kd.lT (p := ⟨nD, 2, none⟩) (Kd.lT (p := ⟨nD, 1, none⟩) (Kd.lT (p := ⟨nD, 0, none⟩) (Kd.rW iq.out jU.out (by decide)) (fun _ hk => hk.2) (.int .i64 t139)) (fun _ hk => hk.2) (.int .i64 t140)) (fun _ hk => hk.2) (.slice abH fD.length ZP)) (fun _ hk => trivial), by repeat (first | (with_reducible first | exact HB.out | apply ak | apply ah | apply au | refine aA ?_ uK.out | refine aA ?_ zL.out | refine aA ?_ Si.out) | exact HB.out)⟩
end Go.Proofs.YtcfobekkchhbbaaGreat.PR

namespace Go.Proofs.YtcfobekkchhbbaaGreat.PR
open Go.RowKit Go.Proofs.YtcfobekkchhbbaaGreat.PQ Go.Proofs.af.aQ Go.Proofs.af.a_ Go.Proofs.af.bg
attribute [local go_sem] iJ iH jI jH gV gU iI iG
set_option linter.unusedVariables false
set_option linter.unusedSimpArgs false
end Go.Proofs.YtcfobekkchhbbaaGreat.PR

namespace Go.Proofs.YtcfobekkchhbbaaGreat.PR
open Go.RowKit Go.Proofs.YtcfobekkchhbbaaGreat.PQ Go.Proofs.af.aQ Go.Proofs.af.a_ Go.Proofs.af.bg Go.Proofs.YtcfobekkchhbbaaGreat.KK
set_option linter.unusedVariables false
set_option linter.unusedSimpArgs false
theorem _root_.Go.Proofs.YtcfobekkchhbbaaGreat.KK.Rd.touch {w w' : World} {A : Option Addr} {l : List Int} {g : Nat} (h : Rd w A l) (hg : w.grownBy w' (some g)) (hne : ∀ ad, A = some ad → 0 < l.length → ad.block ≠ g) : Rd w' A l := by
 refine ⟨h.1, h.2.1, fun hp => ?_⟩
 obtain ⟨ad, e, hc⟩ := h.2.2 hp
 refine ⟨ad, e, fun j p hj => ?_⟩
 obtain ⟨c, h1, h2, h3⟩ := hc j p hj
 refine ⟨c, h1, h2, fun i u hi => ?_⟩
 have hx := h3 i u hi
 have hb : (ad.add (j * (Kd.int .i64).sz + i)).block = ad.block := rU _ _
 have hlt := cell_lt hx
 rw [hb] at hlt
 have hk := hg.block ad.block hlt (fun e' => hne ad e hp (by injection e'))
 rw [← hx]
 unfold World.cell?
 rw [hb, hk]
theorem _root_.Go.Proofs.YtcfobekkchhbbaaGreat.KK.Own.touch {w w' : World} {base g : Nat} {v : Value} {l : List Int} (h : Own w base v l) (hg : w.grownBy w' (some g)) (hb : g < base) : Own w' base v l :=
 Own.tH (kY h.row fun k hk => hg.block k (h.row.lt k hk).2 (fun e => by have := (h.row.lt k hk).1; injection e with e; omega))
structure Sg (w0 : World) (g : Nat) (L : List (TypeId × Array Value)) (w : World) : Prop where
 rows : KK.Rows w w0.heap.size L
 gr : w0.grownBy w (some g)
section
variable {w w' w0 : World} {g : Nat} {L : List (TypeId × Array Value)}
theorem Sg.of (h : bD w0 L w) : Sg w0 g L w := ⟨h.rows, KK.fF h.be _⟩
theorem Sg.below (h : Sg w0 g L w) (hb : Below w.heap.size w w') : Sg w0 g L w' := ⟨h.rows.below hb, dG h.gr (KK.fF hb _)⟩
theorem Sg.alloc (h : Sg w0 g L w) (o : Obj) : Sg w0 g L (w.alloc o) := h.below ((Below.refl _ _).alloc (Nat.le_refl _) o)
theorem Sg.drew (h : Sg w0 g L w) : Sg w0 g L w.drew := h.below (Below.refl _ _).drew
theorem Sg.touch (h : Sg w0 g L w) (hg : w.grownBy w' (some g)) (hlt : g < w0.heap.size) : Sg w0 g L w' :=
 ⟨h.rows.imp fun k t cs hk _ r => r.grown hg (fun e => by injection e with e; omega), dG h.gr hg⟩
variable {x0 x1 x2 x3 x4 x5 : TypeId × Array Value}
theorem Sg.r0 (h : Sg w0 g (x0 :: L) w) : Row w w0.heap.size x0.1 x0.2 := h.rows.1
theorem Sg.r1 (h : Sg w0 g (x0 :: x1 :: L) w) : Row w (w0.heap.size + 1) x1.1 x1.2 := h.rows.2.1
theorem Sg.r2 (h : Sg w0 g (x0 :: x1 :: x2 :: L) w) : Row w (w0.heap.size + 1 + 1) x2.1 x2.2 := h.rows.2.2.1
theorem Sg.r3 (h : Sg w0 g (x0 :: x1 :: x2 :: x3 :: L) w) : Row w (w0.heap.size + 1 + 1 + 1) x3.1 x3.2 := h.rows.2.2.2.1
end
theorem xE (g : Nat) (s o : Bool) (q : Int) (w : World) (R : Row w g 213 #[.bool s]) :
 Calls Tryz.prog 191 #[.pointer (some ⟨g, 0, none⟩), I q, .bool o] w fun e w' => e = .returned (I q) ∧ Row w' g 213 #[.bool (s || o)] ∧ w.grownBy w' (some g) := by
 have x := R.cell
 have f := R.free
 have HR := Lib.hid (R.set 0 (.bool (s || o)))
 have HG : Hid (w.grownBy (w.setCell ⟨g, 0, none⟩ (.bool (s || o))) (some g)) := Lib.hid ⟨rfl, rfl, rfl, by simp, fun k hk hne => Below.heap_setCell w _ _ k (fun e => hne (by rw [e]))⟩
 clear R
 cases s
 all_goals
  go_enter Tryz.func191, Tryz.ntmps191
  go_wp2
  go_ret
  exact ⟨rfl, by simpa using HR.out, by simpa using HG.out⟩
theorem NL (w : World) (g j : Nat) (u : Value) : w.grownBy (w.setCell ⟨g, j, none⟩ u) (some g) := ⟨rfl, rfl, rfl, by simp, fun k hk hne => Below.heap_setCell w _ _ k (fun e => hne (by rw [e]))⟩
theorem Oj (g : Nat) (s u : Bool) (X : Array Value) (w : World) (R : Row w g 213 #[.bool s]) (W : World) (hW : W = ((w.setCell ⟨g, 0, none⟩ (.bool u)).alloc (.cells X 29)).alloc (.cells X 29)) :
 Row W (w.heap.size + 1) 29 X ∧ Row W g 213 #[.bool u] ∧ w.grownBy W (some g) := by
 subst hW
 refine ⟨?_, ?_, ?_⟩
 · have := Row.new ((w.setCell ⟨g, 0, none⟩ (.bool u)).alloc (.cells X 29)) 29 X
   simpa using this
 · exact ((R.set 0 (.bool u)).alloc _).alloc _
 · exact dG (NL w g 0 _) (KK.fF (((Below.refl _ _).alloc (Nat.le_refl _) _).alloc (by simp) _) _)
theorem pz (g : Nat) (s o : Bool) (a b c : Int) (A : Option Addr) (n cp : Nat) (w : World) (R : Row w g 213 #[.bool s]) :
 Calls Tryz.prog 151 #[.pointer (some ⟨g, 0, none⟩), .agg #[I a, I b, .slice A n cp], .bool o, I c] w fun e w' => e = .returned (.agg #[I a, I b, .slice A n cp]) ∧ Row w' g 213 #[.bool (s || o)] ∧ w.grownBy w' (some g) := by
 have hg := R.lt
 have E := Lib.hid (fun u W h => Oj g s u #[I a, I b, .slice A n cp] w R W h)
 have x := R.cell
 have f := R.free
 clear R
 cases s
 all_goals
  go_enter Tryz.func151, Tryz.ntmps151
  go_wp2
  first
   | exact bodyPost_ret (Tc rfl rfl (E.out o _ rfl).1) rfl ⟨rfl, (E.out o _ rfl).2.1, (E.out o _ rfl).2.2⟩
   | exact bodyPost_ret (Tc rfl rfl (E.out true _ rfl).1) rfl ⟨rfl, (E.out true _ rfl).2.1, (E.out true _ rfl).2.2⟩
end Go.Proofs.YtcfobekkchhbbaaGreat.PR

namespace Go.Proofs.YtcfobekkchhbbaaGreat.PR
open Go.RowKit Go.Proofs.YtcfobekkchhbbaaGreat.PQ Go.Proofs.af.aQ Go.Proofs.af.a_ Go.Proofs.af.bg Go.Proofs.YtcfobekkchhbbaaGreat.KK
set_option linter.unusedVariables false
set_option linter.unusedSimpArgs false
theorem Ir {w0 w : World} {g : Nat} {s : Bool} (h : aJ w0 w g s) : Row w g 213 #[.bool s] := h.1
theorem grown_of {w0 w w' : World} {g : Nat} (hB : Below w0.heap.size w0 w) (hB' : Below w0.heap.size w0 w') (hk : bH w w' g none) : w.grownBy w' (some g) :=
 ⟨hB'.os.trans hB.os.symm, hB'.tape.trans hB.tape.symm, hB'.output.trans hB.output.symm, hk.1, fun k hk' hne => hk.2 k hk' (fun e => hne (by rw [e])) (by simp)⟩
theorem uF {w0 w w' : World} {g : Nat} (hB : Below w0.heap.size w0 w) (hg : w0.heap.size ≤ g) (h : w.grownBy w' (some g)) : Below w0.heap.size w0 w' :=
 ⟨h.os.trans hB.os, h.tape.trans hB.tape, h.output.trans hB.output, Nat.le_trans hB.size h.size, fun k hk => (h.block k (Nat.lt_of_lt_of_le hk hB.size) (fun e => by injection e with e; omega)).trans (hB.block k hk)⟩
theorem TI {w w' : World} {g : Nat} (h : w.grownBy w' (some g)) : bH w w' g none := ⟨h.size, fun k hk hne _ => h.block k hk (fun e => hne (by injection e))⟩
theorem yO (w0 w : World) (g : Nat) (s : Bool) (bP bQ : Int) (A1 : Option Addr) (c1 : Nat) (l1 : List Int) (mg l_ : Int) (A2 : Option Addr) (c2 : Nat) (l2 : List Int) (r1 r2 : Int) (r3 : List Int) (r4 : Bool)
 (R : Row w g 213 #[.bool s]) (hg : w0.heap.size ≤ g) (hB : Below w0.heap.size w0 w) (h1 : Rd w A1 l1) (hc1 : l1.length ≤ c1) (hf1 : ∀ ad, A1 = some ad → 0 < l1.length → ad.block ≠ g) (h2 : Rd w A2 l2) (hc2 : l2.length ≤ c2) (hf2 : ∀ ad, A2 = some ad → 0 < l2.length → ad.block ≠ g)
 (h : bV.f s bP bQ l1 mg l_ l2 = some (r1, r2, r3, r4)) :
 Calls Tryz.prog 154 #[.pointer (some ⟨g, 0, none⟩), .agg #[I bP, I bQ, .slice A1 l1.length c1], .agg #[I mg, I l_, .slice A2 l2.length c2]] w fun e w' => ∃ A c, e = .returned (.agg #[I r1, I r2, .slice A r3.length c]) ∧ Own w' w.heap.size (.slice A r3.length c) r3 ∧ Row w' g 213 #[.bool r4] ∧ w.grownBy w' (some g) := by
 refine (bV.calls g s bP bQ A1 c1 l1 mg l_ A2 c2 l2 r1 r2 r3 r4 w0 w ⟨R, hg⟩ hB h1 hc1 hf1 h2 hc2 hf2 h).mono ?_
 rintro e w' ⟨v, rfl, ho, hI, hb, hk⟩
 obtain ⟨A, c, rfl, _, _⟩ := Own.reads ho
 exact ⟨A, c, rfl, ho, hI.1, grown_of hB hb hk⟩
theorem Own.first {w : World} {base : Nat} {A : Option Addr} {c : Nat} {l : List Int} (h : Own w base (.slice A l.length c) l) (hp : 0 < l.length) : ∃ b off, A = some ⟨b, off, none⟩ ∧ w.cell? ⟨b, off, none⟩ = some (I (l.getD 0 0)) ∧ base ≤ b := by
 obtain ⟨A', c', he, _, hr⟩ := Own.reads h
 injection he with e1 _ _
 subst e1
 obtain ⟨b, off, rfl, _, hc⟩ := hr.cells hp
 refine ⟨b, off, rfl, ?_, ?_⟩
 · have := hc 0 _ (gX hp)
   simpa using this
 · exact (h.row.lt b rfl).1
theorem Xp (a b : Int) (A : Option Addr) (n c : Nat) (w : World) : (Instr.field 29 (.agg #[.int .i64 a, .int .i64 b, .slice A n c]) 2).run Tryz.prog w = .ok (.slice A n c) w := by
 have hu := Tryz.underlying29
 have hk : Tryz.prog.cellsOf 27 = 1 := by kernel_rfl
 simp [Instr.field, go_sem, hu, hk, asAgg]
def dR.f (nH : Bool) (bP : Int) (bQ : Int) (bG : List Int) (oL : Int) (oK : Int) (lK : List Int) (mg : Int) (l_ : Int) (kM : List Int) (a3 : Int) (a4 : Int) : Option (Int × Int × Bool) :=
 (jl.f mg l_ kM bP bQ bG).bind fun m => if 0 < m.2.2.1.length then
   ((bV.f (nH || m.2.2.2.1 || (lI a3 (m.2.2.1.getD 0 0)).2) mg l_ kM oL oK lK).bind fun b => if 0 < b.2.2.1.length then some ((lI a3 (m.2.2.1.getD 0 0)).1, (jg (b.2.2.1.getD 0 0) a4).1, b.2.2.2 || (jg (b.2.2.1.getD 0 0) a4).2) else none) else none
theorem dR.calls (g : Nat) (nH : Bool) (bP : Int) (bQ : Int) (eY : Option Addr) (fA : Nat) (bG : List Int) (oL : Int) (oK : Int) (sQ : Option Addr) (uz : Nat) (lK : List Int) (mg : Int) (l_ : Int) (qH : Option Addr) (rQ : Nat) (kM : List Int) (a3 : Int) (a4 : Int) (r1 : Int) (r2 : Int) (r3 : Bool) (w0 w : World) (hI : aJ w0 w g nH) (hB : Below w0.heap.size w0 w)
 (mG : Kd.C (Kd.int .i64) w eY bG.length bG) (nC : bG.length ≤ fA) (I7 : ∀ ad, eY = some ad → 0 < bG.length → ad.block ≠ g) (IU : Kd.C (Kd.int .i64) w sQ lK.length lK) (I9 : lK.length ≤ uz) (Qx : ∀ ad, sQ = some ad → 0 < lK.length → ad.block ≠ g) (IQ : Kd.C (Kd.int .i64) w qH kM.length kM) (I8 : kM.length ≤ rQ) (I5 : ∀ ad, qH = some ad → 0 < kM.length → ad.block ≠ g)
 (h : dR.f nH bP bQ bG oL oK lK mg l_ kM a3 a4 = some (r1, r2, r3)) :
 Calls Tryz.prog 190 #[.pointer (some ⟨g, 0, none⟩), .agg #[.int .i64 bP, .int .i64 bQ, .slice eY bG.length fA, .int .i64 oL, .int .i64 oK, .slice sQ lK.length uz], .agg #[.int .i64 mg, .int .i64 l_, .slice qH kM.length rQ], .int .i64 a3, .int .i64 a4] w fun e w' => e = .returned (.tuple #[.int .i64 r1, .int .i64 r2]) ∧ aJ w0 w' g r3 ∧ Below w0.heap.size w0 w' ∧ bH w w' g none := by
 unfold dR.f at h
 obtain ⟨⟨m1, m2, lm, fm, em⟩, hm, h⟩ := Option.bind_eq_some_iff.1 h
 dsimp only at h
 split at h
 case isFalse => cases h
 rename_i hp
 obtain ⟨⟨b1, b2, lb, fb⟩, hbt, h⟩ := Option.bind_eq_some_iff.1 h
 dsimp only at h
 split at h
 case isFalse => cases h
 rename_i hp2
 simp only [Option.some.injEq, Prod.mk.injEq] at h
 obtain ⟨rfl, rfl, rfl⟩ := h
 have hgl := (Ir hI).lt
 have N : Hid (Sg w g [(31, #[I bP, I bQ, .slice eY bG.length fA, I oL, I oK, .slice sQ lK.length uz]), (29, #[I mg, I l_, .slice qH kM.length rQ])] ((w.alloc (.cells #[I bP, I bQ, .slice eY bG.length fA, I oL, I oK, .slice sQ lK.length uz] 31)).alloc (.cells #[I mg, I l_, .slice qH kM.length rQ] 29))) := Lib.hid (Sg.of (((bD.none w).push (by simp) _ _).push (by simp) _ _))
 have R := Lib.hid (((Ir hI).alloc (.cells #[I bP, I bQ, .slice eY bG.length fA, I oL, I oK, .slice sQ lK.length uz] 31)).alloc (.cells #[I mg, I l_, .slice qH kM.length rQ] 29))
 have HG := Lib.hid hI.2
 have HB := Lib.hid hB
 have C1 := Lib.hid nC
 have C5 := Lib.hid I9
 have C2 := Lib.hid I8
 have T1 := Lib.hid (fun w' (h : w.grownBy w' (some g)) => Rd.touch mG h I7)
 have T5 := Lib.hid (fun w' (h : w.grownBy w' (some g)) => Rd.touch IU h Qx)
 have T2 := Lib.hid (fun w' (h : w.grownBy w' (some g)) => Rd.touch IQ h I5)
 have F2 := Lib.hid I5
 have F5 := Lib.hid Qx
 have HM := Lib.hid hm
 have HBT := Lib.hid hbt
 have P1 := Lib.hid hp
 have P2 := Lib.hid hp2
 have GL := Lib.hid hgl
 clear hI hB mG nC I7 IU I9 Qx IQ I8 I5 hm hbt hp hp2 hgl
 obtain ⟨z, hz⟩ : ∃ z, lI a3 (lm.getD 0 0) = z := ⟨_, rfl⟩
 obtain ⟨y, hy⟩ : ∃ y, jg (lb.getD 0 0) a4 = y := ⟨_, rfl⟩
 rw [hz] at HBT ⊢
 rw [hy]
 have HZ := Lib.hid hz
 have HY := Lib.hid hy
 clear hz hy
 obtain ⟨z1, z2⟩ := z
 obtain ⟨y1, y2⟩ := y
 dsimp only at HBT ⊢
 have hmf := KK.hmf
 have hfd := Xp
 go_enter Tryz.func190, Tryz.ntmps190
 go_wp2_with fail
 refine (jl.calls mg l_ qH rQ kM bP bQ eY fA bG m1 m2 lm fm em _ (T2.out _ N.out.gr) C2.out (T1.out _ N.out.gr) C1.out HM.out).mono ?_
 rintro e w2 ⟨v, rfl, ho, hb⟩
 obtain ⟨Am, cm, rfl, _, _⟩ := Own.reads ho
 have O := Lib.hid ho
 have N2 := Lib.hid (N.out.below hb)
 have R2 := Lib.hid (R.out.below hb R.out.lt)
 clear ho hb
 go_wp2_with fail
 refine (pz g nH fm m1 m2 em Am lm.length cm w2 R2.out).mono ?_
 rintro e w3 ⟨rfl, hr3, hg3⟩
 have O3 := Lib.hid (Own.touch O.out hg3 (by have := GL.out; simp; omega))
 have N3 := Lib.hid (N2.out.touch hg3 GL.out)
 have R3 := Lib.hid hr3
 clear hr3 hg3
 obtain ⟨bm, om, rfl, x, _⟩ := Own.first O3.out P1.out
 have hlm : (0 : Int) < lm.length := by have := P1.out; omega
 go_wp2_with fail
 refine (yj a3 (lm.getD 0 0) w3).mono ?_
 rw [HZ.out]
 rintro e w4 ⟨rfl, hb⟩
 have N4 := Lib.hid (N3.out.below hb)
 have R4 := Lib.hid (R3.out.below hb R3.out.lt)
 clear hb x
 go_wp2_with fail
 refine (xE g (nH || fm) z2 z1 w4 R4.out).mono ?_
 rintro e w5 ⟨rfl, hr5, hg5⟩
 have N5 := Lib.hid (N4.out.touch hg5 GL.out)
 have R5 := Lib.hid hr5
 clear hr5 hg5
 have x0 := N5.out.r0.cell
 have x1 := N5.out.r1.cell
 go_wp2_with fail
 refine (yO w0 w5 g _ mg l_ qH rQ kM oL oK sQ uz lK b1 b2 lb fb R5.out HG.out (uF HB.out HG.out N5.out.gr) (T2.out _ N5.out.gr) C2.out F2.out (T5.out _ N5.out.gr) C5.out F5.out HBT.out).mono ?_
 rintro e w6 ⟨Ab, cb, rfl, ho, hr6, Xl⟩
 have N6 := Lib.hid (N5.out.touch Xl GL.out)
 have R6 := Lib.hid hr6
 obtain ⟨bb, ob, rfl, x, _⟩ := Own.first ho P2.out
 have hlb : (0 : Int) < lb.length := by have := P2.out; omega
 clear hr6 Xl ho x0 x1 hlm
 go_wp2_with fail
 refine (vT (lb.getD 0 0) a4 w6).mono ?_
 rw [HY.out]
 rintro e w7 ⟨rfl, hb⟩
 have N7 := Lib.hid (N6.out.below hb)
 have R7 := Lib.hid (R6.out.below hb R6.out.lt)
 clear hb x
 go_wp2_with fail
 refine (xE g fb y2 y1 w7 R7.out).mono ?_
 rintro e w8 ⟨rfl, hr8, hg8⟩
 have N8 := Lib.hid (N7.out.touch hg8 GL.out)
 have R8 := Lib.hid hr8
 clear hr8 hg8
 go_wp2
 go_ret2
 exact ⟨rfl, ⟨R8.out, HG.out⟩, uF HB.out HG.out N8.out.gr, TI N8.out.gr⟩
end Go.Proofs.YtcfobekkchhbbaaGreat.PR

namespace Go.Proofs.YtcfobekkchhbbaaGreat.PR
open Go.RowKit Go.Proofs.YtcfobekkchhbbaaGreat.PQ Go.Proofs.af.aQ Go.Proofs.af.a_ Go.Proofs.af.bg Go.Proofs.YtcfobekkchhbbaaGreat.KK
set_option linter.unusedVariables false
set_option linter.unusedSimpArgs false
theorem OQ (a b : Int) (w : World) : Calls Tryz.prog 144 #[I a, I b] w fun e w' => e = .returned (.tuple #[I (Ed a b).1, .bool (Ed a b).2]) ∧ Below w.heap.size w w' := by
 obtain ⟨k, hk⟩ := ZN a b
 exact nN.calls k a b _ _ w (hk k (Nat.le_refl _))
def wW (n : Nat) (L : List Int) : Nat → List Int
 | 0 => L
 | j + 1 => (wW n L j).set (j * n + j) (mx (rd (wW n L j) (((j * n + j : Nat)) : Int)) 0)
def xN (n : Nat) (l : List Int) : List Int := wW n (Ec n l) n
theorem wG (n : Nat) (L : List Int) (j : Nat) : (wW n L j).length = L.length := by
 induction j with
 | zero => rfl
 | succ j ih => simp only [wW, List.length_set, ih]
theorem xQ (n : Nat) (l : List Int) : (Ec n l).length = n * n := upto_length
theorem Oz (n : Nat) (L : List Int) (hn : n ≤ 8) (hL : L.length = n * n) : ∀ (d j : Nat), j + d = n → bZ.l0 (d + 1) n j n n (wW n L j) = some ((n : Int), (n : Int), wW n L n) := by
 intro d
 induction d with
 | zero =>
   intro j hj
   obtain rfl : j = n := by omega
   unfold bZ.l0
   rw [if_neg (by omega)]
 | succ d ih =>
   intro j hj
   have hlt := jQ (r := n) (c := n) (i := j) (k := j) (by omega) (by omega)
   have hle : n * n ≤ 8 * 8 := Nat.mul_le_mul hn hn
   have e1 : (j : Int) * (n : Int) = ((j * n : Nat) : Int) := by push_cast; rfl
   have e2 : wrap64 ((j : Int) * (n : Int)) = ((j * n : Nat) : Int) := by rw [e1]; exact JC (by omega) (by omega)
   have e3 : wrap64 (((j * n : Nat) : Int) + (j : Int)) = ((j * n + j : Nat) : Int) := by rw [JC (by omega) (by omega)]; push_cast; rfl
   have e4 : wrap64 ((j : Int) + 1) = ((j + 1 : Nat) : Int) := by rw [JC (by omega) (by omega)]; push_cast; rfl
   unfold bZ.l0
   rw [if_pos (by omega), e2, e3, if_pos (by omega), if_pos (by rw [wG, hL]; omega), e4, Int.toNat_natCast]
   exact ih (j + 1) (by omega)
theorem Oy (n : Nat) (l : List Int) (hn : n ≤ 8) (hl : l.length = n * n) : bZ.f (n + 1) n n l = some ((n : Int), (n : Int), xN n l) := by
 have e1 : (l.length : Int) = (n : Int) * (n : Int) := by rw [hl]; push_cast; rfl
 unfold bZ.f pq.f
 rw [if_pos ⟨rfl, by omega, by omega, by omega, by omega, e1⟩]
 simp only [Option.bind_some, Int.toNat_natCast]
 exact Oz n (Ec n l) hn (xQ n l) n 0 (by omega)
theorem BU (n : Nat) (A : Option Addr) (c : Nat) (l : List Int) (w : World) (hn : n ≤ 8) (hl : l.length = n * n) (hA : Rd w A l) (hc : l.length ≤ c) :
 Calls Tryz.prog 155 #[.agg #[I n, I n, .slice A l.length c]] w fun e w' => ∃ A2 c2, e = .returned (.agg #[I n, I n, .slice A2 (xN n l).length c2]) ∧ Own w' w.heap.size (.slice A2 (xN n l).length c2) (xN n l) ∧ Below w.heap.size w w' := by
 refine (bZ.calls (n + 1) n n A c l _ _ _ w hA hc (Oy n l hn hl)).mono ?_
 rintro e w' ⟨v, rfl, ho, hb⟩
 obtain ⟨A2, c2, rfl, _, _⟩ := Own.reads ho
 exact ⟨A2, c2, rfl, ho, hb⟩
def jd (r n : Nat) (a p : List Int) : List Int := mulL r n r (mulL r n n a p) (xq r n a)
def nR (r n : Nat) (a p : List Int) : Bool := ru r n n a p || ru r n r (mulL r n n a p) (xq r n a)
theorem jW (r c1 c2 : Nat) (l m : List Int) : (mulL r c1 c2 l m).length = r * c2 := upto_length
theorem shape {r c : Nat} {l : List Int} (hr : r ≤ 8) (hc : c ≤ 8) (hl : l.length = r * c) : 0 ≤ (r : Int) ∧ (r : Int) ≤ 8 ∧ 0 ≤ (c : Int) ∧ (c : Int) ≤ 8 ∧ (l.length : Int) = (r : Int) * (c : Int) :=
 ⟨by omega, by omega, by omega, by omega, by rw [hl]; push_cast; rfl⟩
theorem Bv {r c1 c2 : Nat} {l m : List Int} (hr : r ≤ 8) (h1 : c1 ≤ 8) (h2 : c2 ≤ 8) (hl : l.length = r * c1) (hm : m.length = c1 * c2) : jl.f r c1 l c1 c2 m = some ((r : Int), (c2 : Int), mulL r c1 c2 l m, ru r c1 c2 l m, 0) := by
 unfold jl.f
 rw [if_pos rfl, if_pos ⟨shape hr h1 hl, shape h1 h2 hm⟩]
 simp only [Int.toNat_natCast]
theorem JK {r c : Nat} {l : List Int} (hr : r ≤ 8) (hc : c ≤ 8) (hl : l.length = r * c) : jM.f r c l = some ((c : Int), (r : Int), xq r c l) := by
 unfold jM.f
 rw [if_pos (shape hr hc hl)]
 simp only [Int.toNat_natCast]
theorem E_ (s : Bool) (a b : Int) (l : List Int) (o : Bool) (e : Int) : dK.f s a b l o e = some (a, b, l, s || o) := by
 unfold dK.f
 cases s <;> simp
theorem rV (s : Bool) (r n : Nat) (a p : List Int) (hr : r ≤ 8) (hn : n ≤ 8) (ha : a.length = r * n) (hp : p.length = n * n) :
 bV.f s r n a n n p = some ((r : Int), (r : Int), jd r n a p, s || nR r n a p) := by
 unfold bV.f
 simp only [Bv hr hn hn ha hp, Option.bind_some, E_, JK hr hn ha, Bv hr hn hr (jW _ _ _ _ _) (oV r n a)]
 simp [jd, nR, Bool.or_assoc]
theorem qG {w w' : World} {r : Option Nat} (h : w.grownBy w' r) {p : Addr} (hp : w.heap.size ≤ p.block) (u : Value) : w.grownBy (w'.setCell p u) r :=
 ⟨h.os, h.tape, h.output, by simpa using h.size, fun k hk hne => (Below.heap_setCell w' p u k (by omega)).trans (h.block k hk hne)⟩
theorem xM {w w' : World} {r : Option Nat} (h : w.grownBy w' r) {C : Nat} (hp : w.heap.size ≤ C) (a b c : Value) : w.grownBy (dw w' C a b c) r :=
 qG (qG (qG h (p := ⟨C, 0, none⟩) hp a) (p := ⟨C, 1, none⟩) hp b) (p := ⟨C, 2, none⟩) hp c
theorem xw (g kb pb n : Nat) (s : Bool) (A : Option Addr) (cp : Nat) (k : List Int) (q : Int) (w : World) (hn : n ≤ 8) (hk : k.length = n * 1) (hA : Rd w A k) (hcp : k.length ≤ cp)
 (Rk : Row w kb 29 #[I n, I 1, .slice A k.length cp]) (Rp : Row w pb 211 #[.pointer (some ⟨g, 0, none⟩)]) (R : Row w g 213 #[.bool s]) :
 Calls Tryz.prog 202 #[I q, .pointer (some ⟨kb, 0, none⟩), .pointer (some ⟨pb, 0, none⟩)] w fun e w' => ∃ A2 c2, e = .returned (.agg #[I n, I 1, .slice A2 (kS n 1 k q).length c2]) ∧ Own w' w.heap.size (.slice A2 (kS n 1 k q).length c2) (kS n 1 k q) ∧ Row w' g 213 #[.bool (s || scaleB n 1 k q)] ∧ w.grownBy w' (some g) := by
 have hgl := R.lt
 have N : Hid (Sg w g [(29, #[I 0, I 0, .slice none 0 0])] (w.alloc (.cells #[I 0, I 0, .slice none 0 0] 29))) := Lib.hid (Sg.of ((bD.none w).push (by simp) _ _))
 have HS := Lib.hid (Oi n 1 A cp k q _ hn (by omega) hk (hA.below ((Below.refl _ _).alloc (Nat.le_refl _) (.cells #[I 0, I 0, .slice none 0 0] 29))) hcp)
 have x0 := (Rk.alloc (.cells #[I 0, I 0, .slice none 0 0] 29)).cell
 have RP := Lib.hid (Rp.alloc (.cells #[I 0, I 0, .slice none 0 0] 29))
 have RG := Lib.hid (R.alloc (.cells #[I 0, I 0, .slice none 0 0] 29))
 have GL := Lib.hid hgl
 obtain ⟨L, hL⟩ : ∃ L, kS n 1 k q = L := ⟨_, rfl⟩
 obtain ⟨b, hb⟩ : ∃ b, scaleB n 1 k q = b := ⟨_, rfl⟩
 rw [hL, hb] at HS ⊢
 clear hn hk hA hcp Rk Rp R hgl hL hb
 go_enter Tryz.func202, Tryz.ntmps202
 go_wp2_with fail
 refine HS.out.mono ?_
 rintro e w2 ⟨v, rfl, ho, hb⟩
 obtain ⟨A2, c2, rfl, _, _⟩ := Own.reads ho
 have O := Lib.hid ho
 have N2 := Lib.hid ((N.out.below hb).alloc (.cells #[I n, I 1, .slice A2 L.length c2] 29))
 have RP2 := Lib.hid (RP.out.below hb RP.out.lt)
 have YL := Lib.hid ((RG.out.below hb RG.out.lt).alloc (.cells #[I n, I 1, .slice A2 L.length c2] 29))
 clear ho hb x0
 have x1 := RP2.out.cell
 have x2 := RP2.out.lt
 go_wp2_with fail
 refine (pz g s b n 1 0 A2 L.length c2 _ YL.out).mono ?_
 rintro e w3 ⟨rfl, hr3, hg3⟩
 have O3 := Lib.hid (Own.touch (O.out.alloc _) hg3 (by have := GL.out; simp; omega))
 have N3 := Lib.hid (N2.out.touch hg3 GL.out)
 have R3 := Lib.hid hr3
 clear hr3 hg3 x1 x2
 have x1 := N3.out.r0.cell
 have g1 := N3.out.r0.free
 go_wp2
 refine bodyPost_ret (Tc rfl rfl (N3.out.r0.dw _ _ _)) rfl ⟨_, _, rfl, ?_, R3.out.pW (by have := GL.out; omega), xM N3.out.gr (Nat.le_refl _) _ _ _⟩
 exact (O3.out.dw (by simp) _ _ _).lower (by simp)
end Go.Proofs.YtcfobekkchhbbaaGreat.PR

namespace Go.Proofs.YtcfobekkchhbbaaGreat.KK
open Go.RowKit
set_option linter.unusedVariables false
set_option linter.unusedSimpArgs false
section
variable {P : Program} {md : Region.Mode} {ops : Array Oper} {Q : Exit → Act → World → Prop} {S : World → Prop} {m : Nat}
def Until (P : Program) (md : Region.Mode) (ops : Array Oper) (Q : Exit → Act → World → Prop) (S : World → Prop) (m : Nat) : Nat → Array Bool → Act → World → Prop
 | 0, L, a, w => Region.ready md ops L = [] ∧ Q .normal a w
 | f + 1, L, a, w => (Region.ready md ops L = [] → Q .normal a w) ∧
     ∀ i ∈ Region.ready md ops L, wpOp P ops Q i (fun a' w' => ((L.setIfInBounds i true).getD m true = false → S w') ∧ Until P md ops Q S m f (L.setIfInBounds i true) a' w') a w
theorem Until.any : ∀ (f : Nat) (L : Array Bool) (a : Act) (w : World), Until P md ops Q S m f L a w → wpAny P md ops Q f L a w
 | 0, _, _, _, h => h
 | f + 1, _, _, _, h => ⟨h.1, fun i hi => wpOp_mono (fun a' w' h' => Until.any f _ a' w' h'.2) (h.2 i hi)⟩
def waits (md : Region.Mode) (ops : Array Oper) (m i : Nat) : Bool := match ops[m]? with | some o => o.after.any fun e => Region.binds md e && e.on == i | none => false
theorem JH {i : Nat} (h : waits md ops m i = true) : ∃ o e, ops[m]? = some o ∧ e ∈ o.after ∧ Region.binds md e = true ∧ e.on = i := by
 unfold waits at h
 cases ho : ops[m]? with
 | none => rw [ho] at h; cases h
 | some o =>
   rw [ho] at h
   simp only [Array.any_eq_true'] at h
   obtain ⟨e, he, hb⟩ := h
   simp only [Bool.and_eq_true, beq_iff_eq] at hb
   exact ⟨o, e, rfl, he, hb.1, hb.2⟩
theorem zh {i j : Nat} {L : Array Bool} (hi : i ∈ Region.ready md ops L) (hj : j ∈ Region.ready md ops L) : ∃ o, ops[j]? = some o ∧ ∀ e ∈ o.after, Region.binds md e = true → e.on ≠ i := by
 obtain ⟨_, o, ho, hall⟩ := mem_ready.1 hj
 refine ⟨o, ho, fun e he hb heq => ?_⟩
 have h1 := hall e he hb
 have h0 := (mem_ready.1 hi).1
 rw [heq] at h1
 by_cases hs : i < L.size
 · rw [Array.getD_eq_getD_getElem?, Array.getElem?_eq_getElem hs] at h0 h1
   simp at h0 h1
   rw [h0] at h1
   cases h1
 · rw [Array.getD_eq_getD_getElem?, Array.getElem?_eq_none (by omega)] at h1
   simp at h1
theorem Until.first {i : Nat} {oi : Oper} {v : Value} (hi : ops[i]? = some oi) (hs : Region.noSelect ops = true) (hQ : ∀ c a w, Q (.panic c) (a.put oi.dst v) w → Q (.panic c) a w) (hm : waits md ops m i = true) :
 ∀ (f : Nat) (L : Array Bool) (a : Act) (w : World),
   (∀ j oj, ops[j]? = some oj → j ≠ i → L.getD j true = false → (∀ e ∈ oj.after, Region.binds md e = true → e.on ≠ i) → oi.apart ops oj = true) →
   i ∈ Region.ready md ops L → L.getD m true = false → YieldsIf P ops S oi v a → S w →
   Until P md ops Q S m f (L.setIfInBounds i true) (a.put oi.dst v) w → Until P md ops Q S m (f + 1) L a w := by
 obtain ⟨om, em, hom, hem, hbm, Zr⟩ := JH hm
 intro f
 induction f with
 | zero =>
   intro L a w hf hr hu hy hS H
   refine ⟨fun h => (by rw [h] at hr; cases hr), fun j hj => ?_⟩
   by_cases hji : j = i
   · subst hji; exact hy.wpOp hi hS ⟨fun _ => hS, H⟩
   · have h := ready_mono hj hji
     rw [H.1] at h
     cases h
 | succ f ih =>
   intro L a w hf hr hu hy hS H
   refine ⟨fun h => (by rw [h] at hr; cases hr), fun j hj => ?_⟩
   by_cases hji : j = i
   · subst hji; exact hy.wpOp hi hS ⟨fun _ => hS, H⟩
   · obtain ⟨oj, hoj, hno⟩ := zh hr hj
     have hjm : j ≠ m := fun e => by
      subst e
      rw [hom] at hoj
      injection hoj with hoj
      subst hoj
      exact hno em hem hbm Zr
     have him : i ≠ m := fun e => by
      subst e
      obtain ⟨o', ho', hn'⟩ := zh hr hr
      rw [hom] at ho'
      injection ho' with ho'
      subst ho'
      exact hn' em hem hbm Zr
     have hun := (mem_ready.1 hj).1
     have h2 := wpOp_putIf hoj (hf j oj hoj hji hun hno) (fun cs b => Region.noSelect_spec hs i oi cs b hi) (fun cs b => Region.noSelect_spec hs j oj cs b hoj) hQ hy (H.2 j (ready_mono hj hji))
     refine wpOp_mono (fun a' w' h3 => ?_) h2
     obtain ⟨hy', hS', H'⟩ := h3
     have hu' : (L.setIfInBounds j true).getD m true = false := by rw [getD_set_ne true hjm]; exact hu
     have hSw : S w' := hS' (by rw [getD_set_ne true hjm, getD_set_ne true him]; exact hu)
     refine ⟨fun _ => hSw, ih _ a' w' ?_ (ready_mono hr (Ne.symm hji)) hu' hy' hSw ?_⟩
     · intro k ok hk hki hku hkn
       refine hf k ok hk hki ?_ hkn
       by_cases hjk : j = k
       · subst hjk; exact hun
       · rw [getD_set_ne true hjk] at hku; exact hku
     · rw [Array.setIfInBounds_comm _ _ hji]
       exact H'
theorem Until.take {i : Nat} {oi : Oper} {v : Value} {f : Nat} {L : Array Bool} {a : Act} {w : World} (hi : ops[i]? = some oi)
 (hs : Region.noSelect ops = true) (hf : Region.free md ops L i = true) (hr : (Region.ready md ops L).contains i = true) (hm : waits md ops m i = true) (hu : L.getD m true = false)
 (hQ : ∀ c a w, Q (.panic c) (a.put oi.dst v) w → Q (.panic c) a w) (hy : YieldsIf P ops S oi v a) (hS : S w)
 (h : Until P md ops Q S m f (L.setIfInBounds i true) (a.put oi.dst v) w) : Until P md ops Q S m (f + 1) L a w :=
 Until.first hi hs hQ hm f L a w (Region.free_spec hi hf) (by simpa using hr) hu hy hS h
theorem Until.one {i : Nat} {o : Oper} {f : Nat} {L : Array Bool} {a : Act} {w : World} (hr : Region.ready md ops L = [i]) (ho : ops[i]? = some o)
 (h : ∀ K' : Act → World → Prop, Shut (∀ a w, ((L.setIfInBounds i true).getD m true = false → S w) → Until P md ops Q S m f (L.setIfInBounds i true) a w → K' a w) → if Region.wanted o (yielded ops a.tmps) = true then Oper.wp P o a w K' Q else K' (a.put o.dst undef) w) :
 Until P md ops Q S m (f + 1) L a w := by
 refine ⟨fun h0 => (by rw [hr] at h0; cases h0), fun j hj => ?_⟩
 rw [hr] at hj
 obtain rfl := List.mem_singleton.1 hj
 have h1 := h (fun a' w' => ((L.setIfInBounds j true).getD m true = false → S w') ∧ Until P md ops Q S m f (L.setIfInBounds j true) a' w') (fun a w hS hU => ⟨hS, hU⟩)
 unfold wpOp
 simp only [ho]
 split
 · rename_i hw
   rw [if_pos hw] at h1
   exact .inl h1
 · rename_i hw
   rw [if_neg hw] at h1
   exact h1
theorem Until.done {L : Array Bool} {a : Act} {w : World} (hr : Region.ready md ops L = []) (h : Q .normal a w) : ∀ f, Until P md ops Q S m f L a w
 | 0 => ⟨hr, h⟩
 | _ + 1 => ⟨fun _ => h, by rw [hr]; simp⟩
theorem xx {id : Nat} {a : Act} {w : World} (S : World → Prop) (m : Nat) (hm : P.follows .mixedOrders = true) (hS : S w.drew) (h : S w.drew → Until P .any ops (NoPanic Q) S m ops.size (Array.replicate ops.size false) a w.drew) : (Code.region id ops true).wp P Q a w :=
 wp_region_noPanic (wp_region_any hm (Until.any _ _ _ _ (h hS)))
end
end Go.Proofs.YtcfobekkchhbbaaGreat.KK

