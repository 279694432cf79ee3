import Derived.Test.YtcfobekkchhbbaaGreatV7
/- Joined and thinned by a program of this session's own (wip/pack2.py) out of its texts (wip/ of its repo); parts were laid by its own program (wip/print-patch.py over the kit's print) out of the translation; Lean checks all. -/
set_option maxRecDepth 100000
set_option maxHeartbeats 8000000
namespace Go.Proofs.YtcfobekkchhbbaaGreat.PR
open Go.RowKit Go.Proofs.YtcfobekkchhbbaaGreat.PQ Go.Proofs.af.aU Go.Proofs.af.a_ Go.Proofs.af.bf
attribute [local go_sem] jq jm kJ kH iM iL jo jl
set_option linter.unusedVariables false
set_option linter.unusedSimpArgs false
def dB.l0 : Nat → Int → Int → Int → Int → List Int → Option (Int × Int × List Int)
 | 0, _, _, _, _, _ => none
 | k + 1, x14, x15, Ox, wW, CJ => if x15 < x14 then (if 0 ≤ (wrap64 ((wrap64 (x15 * wW)) + x15)) then (if (wrap64 ((wrap64 (x15 * wW)) + x15)) < (CJ.length : Int) then (dB.l0 k x14 (wrap64 (x15 + 1)) Ox wW (CJ.set ((wrap64 ((wrap64 (x15 * wW)) + x15)) : Int).toNat (mx (rd CJ (wrap64 ((wrap64 (x15 * wW)) + x15))) 0))) else (none)) else (none)) else (some (Ox, wW, CJ))
def dB.f (k : Nat) (aY : Int) (bu : Int) (bn : List Int) : Option (Int × Int × List Int) := (qL.f aY bu bn).bind fun zA => (dB.l0 k zA.1 0 zA.1 zA.2.1 zA.2.2.1)
def dB.T5 : Bool × List (List Nat × List Nat) := (true, [([], []), ([0], [0]), ([], []), ([], []), ([3], [3]), ([2, 4], [2, 4]), ([], []), ([5, 6], [5, 6]), ([], []), ([8], [8]), ([], []), ([], []), ([11], [11]), ([10, 12], [10, 12]), ([], []), ([13, 14], [13, 14]), ([9, 15], [9, 15]), ([16], [16]), ([17], [17]), ([1, 7, 0, 1, 2, 3, 4, 5, 6, 7, 8, 9, 10, 11, 12, 13, 14, 15, 16, 17, 18], [1, 7]), ([19, 18, 0, 1, 2, 3, 4, 5, 6, 7, 8, 9, 10, 11, 12, 13, 14, 15, 16, 17, 18], [18, 19])])
def dB.B5 : List Nat := [0, 1, 0, 0, 8, 28, 0, 124, 0, 256, 0, 0, 2048, 7168, 0, 31744, 65280, 130816, 261888, 524287, 1048575]
theorem dB.af8 : pO .any (opsOf Tryz.f155 5) = dB.T5 := by kernel_rfl
theorem dB.abH : qc dB.T5.2 dB.B5 = true := by kernel_rfl
theorem dB.calls (k : Nat) (aY : Int) (bu : Int) (bZ : Option Addr) (bY : Nat) (bn : List Int) (r1 : Int) (r2 : Int) (r3 : List Int) (w : World) (jE : Kd.C (Kd.int .i64) w bZ bn.length bn) (jY : bn.length ≤ bY) (h : dB.f k aY bu bn = some (r1, r2, r3)) :
 Calls Tryz.prog 155 #[.agg #[.int .i64 aY, .int .i64 bu, .slice bZ bn.length bY]] w fun e w' => ∃ zS : Value, e = .returned (.agg #[.int .i64 r1, .int .i64 r2, zS]) ∧ Kd.R (Kd.int .i64) 22 w' w.heap.size (fun _ => True) zS r3 ∧ Below w.heap.size w w' := by
 have Cc := Tryz.underlying29; have nK := aj.mk jE; have p_ := aj.mk jY; clear jE jY; have HB := aj.mk (Below.refl w.heap.size w); have H : ((qL.f aY bu bn).bind fun zA => (dB.l0 k zA.1 0 zA.1 zA.2.1 zA.2.2.1)) = some (r1, r2, r3) := h; clear h; replace H := Option.bind_eq_some_iff.mp H; obtain ⟨⟨t139, t140, t141, t144, t145⟩, A20, H⟩ := H; replace H : (dB.l0 k t139 0 t139 t140 t141) = some (r1, r2, r3) := H; have A2 := aj.mk A20; clear A20; have H' := aj.mk H; clear H
 go_enter Tryz.func155, Tryz.ntmps155
 go_wp2_with (first | ((with_reducible refine dH (N := 1) rfl ?_); refine dw ?hg (N := 1) ?hd (cs := #[.int .i64 aY, .int .i64 bu, .slice bZ bn.length bY]) (t := 29) ?hr ?_; (case hd => rfl); (case hg => rfl); (case hr => first | (go_simp; done) | (go_simp; rfl)); intro pG hg w3 hbox hb; have bJ := aj.mk (aV (by repeat (first | (with_reducible first | exact HB.out | apply ak | apply ah | apply au) | exact HB.out)) hb); have dP := aj.mk (hbox); have dY := aj.mk ((by rw [hg]; exact (bg (by repeat (first | (with_reducible first | exact HB.out | apply ak | apply ah | apply au) | exact HB.out))) : w.heap.size ≤ pG)); have fH := aj.mk ((by rw [hg]; exact (bg (by repeat (first | (with_reducible first | exact HB.out | apply ak | apply ah | apply au) | exact HB.out))) : w.heap.size ≤ pG)); clear HB; have HB := bJ; have kD := dP; have akI := dY; have wM := fH; clear bJ dP dY fH; clear hb hbox hg) | ((with_reducible refine dH (N := 2) rfl ?_); refine dw ?hg (N := 2) ?hd (cs := #[.int .i64 0, .int .i64 0, .slice none 0 0]) (t := 29) ?hr ?_; (case hd => rfl); (case hg => rfl); (case hr => first | (go_simp; done) | (go_simp; rfl)); intro oN hg w4 hbox hb; have bJ := aj.mk (bH (g := pG) (o := .cells #[.int .i64 aY, .int .i64 bu, .slice bZ bn.length bY] 29 (0, 0)) (by (with_reducible repeat (first | refine aA ?_ _ | refine aH ?_ | refine aC ?_ _)); exact kD.out) hb); have dP := aj.mk (aV (by repeat (first | (with_reducible first | exact HB.out | apply ak | apply ah | apply au | refine aG ?_ wM.out) | exact HB.out)) hb); have dY := aj.mk (hbox); have fH := aj.mk ((by rw [hg]; exact (bg (by repeat (first | (with_reducible first | exact HB.out | apply ak | apply ah | apply au | refine aG ?_ wM.out) | exact HB.out))) : w.heap.size ≤ oN)); have jM := aj.mk ((by rw [hg]; exact (bg (by repeat (first | (with_reducible first | exact HB.out | apply ak | apply ah | apply au | refine aG ?_ wM.out) | exact HB.out))) : w.heap.size ≤ oN)); have kQ := aj.mk ((by rw [hg]; exact Nat.ne_of_lt (fB (g := pG) (o := .cells #[.int .i64 aY, .int .i64 bu, .slice bZ bn.length bY] 29 (0, 0)) (by (with_reducible repeat (first | refine aA ?_ _ | refine aH ?_ | refine aC ?_ _)); exact kD.out)) : pG ≠ oN)); have kY := aj.mk ((by rw [hg]; exact Nat.ne_of_gt (fB (g := pG) (o := .cells #[.int .i64 aY, .int .i64 bu, .slice bZ bn.length bY] 29 (0, 0)) (by (with_reducible repeat (first | refine aA ?_ _ | refine aH ?_ | refine aC ?_ _)); exact kD.out)) : oN ≠ pG)); clear kD; clear HB; have kD := bJ; have HB := dP; have lu := dY; have akH := fH; have BR := jM; have GZ := kQ; have GY := kY; clear bJ dP dY fH jM kQ kY; clear hb hbox hg; have alF := GZ.out; have alC := GY.out; have sZ : w4.cell? ⟨pG, 0, none⟩ = some (.int .i64 aY) := (az kD.out 0).trans rfl; have sW : w4.cell? ⟨pG, 1, none⟩ = some (.int .i64 bu) := (az kD.out 1).trans rfl; have uJ : w4.cell? ⟨pG, 2, none⟩ = some (.slice bZ bn.length bY) := (az kD.out 2).trans rfl; have sV := ay kD.out 0; have sU := ay kD.out 1; have uI := ay kD.out 2) | ((with_reducible refine aJ (f := 188) rfl ?_); refine bF (some 9) rfl rfl Tryz.func188 (by kernel_rfl) rfl #[.agg #[.int .i64 aY, .int .i64 bu, .slice bZ bn.length bY]] rfl (by (try simp only [List.map_toArray, List.map_cons, List.map_nil]); first | done | rfl | (simp only [List.length_drop, List.length_take]; rfl)) ?_; (with_reducible refine (qL.calls aY bu _ _ bn t139 t140 t141 t144 t145 _ ?gX ?gW A2.out).mono ?_); (case gX => repeat (first | exact (Kd.gJ nK.out HB.out) | (with_reducible refine Kd.iD ?_ _) | (with_reducible refine Kd.iC ?_ _) | (with_reducible refine Kd.jv ?_))); (case gW => exact p_.out); rintro e w7 ⟨ak6, rfl, ho0, hb⟩; refine ⟨_, rfl, ?_⟩; have bJ := aj.mk (Kd.mY ho0 (bg (by repeat (first | (with_reducible first | exact HB.out | apply ak | apply ah | apply au | refine aG ?_ wM.out | refine aG ?_ BR.out) | exact HB.out)))); have dP := aj.mk (bH (g := pG) (o := .cells #[.int .i64 aY, .int .i64 bu, .slice bZ bn.length bY] 29 (0, 0)) (by (with_reducible repeat (first | refine aA ?_ _ | refine aH ?_ | refine aC ?_ _)); exact kD.out) hb); have dY := aj.mk (bH (g := oN) (o := .cells #[.int .i64 0, .int .i64 0, .slice none 0 0] 29 (0, 0)) (by (with_reducible repeat (first | refine aA ?_ _ | refine aH ?_ | refine aC ?_ _)); exact lu.out) hb); have fH := aj.mk (aV (by repeat (first | (with_reducible first | exact HB.out | apply ak | apply ah | apply au | refine aG ?_ wM.out | refine aG ?_ BR.out) | exact HB.out)) hb); clear kD; clear lu; clear HB; have Le := bJ; have kD := dP; have lu := dY; have HB := fH; clear bJ dP dY fH; (try clear hb); (try clear hb2); (try clear hk); (try clear hi); (try clear ho0)) | ((with_reducible refine dH (N := 3) rfl ?_); refine dw ?hg (N := 3) ?hd (cs := #[.int .i64 0, .int .i64 0, .slice none 0 0]) (t := 29) ?hr ?_; (case hd => rfl); (case hg => rfl); (case hr => first | (go_simp; done) | (go_simp; rfl)); intro oG hg w8 hbox hb; have bJ := aj.mk (Kd.oI (by (with_reducible repeat (first | apply Kd.dO | apply Kd.dN | apply Kd.eG)); exact Le.out) hb); have dP := aj.mk (bH (g := pG) (o := .cells #[.int .i64 aY, .int .i64 bu, .slice bZ bn.length bY] 29 (0, 0)) (by (with_reducible repeat (first | refine aA ?_ _ | refine aH ?_ | refine aC ?_ _)); exact kD.out) hb); have dY := aj.mk (bH (g := oN) (o := .cells #[.int .i64 0, .int .i64 0, .slice none 0 0] 29 (0, 0)) (by (with_reducible repeat (first | refine aA ?_ _ | refine aH ?_ | refine aC ?_ _)); exact lu.out) hb); have fH := aj.mk (aV (by repeat (first | (with_reducible first | exact HB.out | apply ak | apply ah | apply au | refine aG ?_ wM.out | refine aG ?_ BR.out) | exact HB.out)) hb); have jM := aj.mk (hbox); have kQ := aj.mk ((by rw [hg]; exact (bg (by repeat (first | (with_reducible first | exact HB.out | apply ak | apply ah | apply au | refine aG ?_ wM.out | refine aG ?_ BR.out) | exact HB.out))) : w.heap.size ≤ oG)); have kY := aj.mk ((by rw [hg]; exact (bg (by repeat (first | (with_reducible first | exact HB.out | apply ak | apply ah | apply au | refine aG ?_ wM.out | refine aG ?_ BR.out) | exact HB.out))) : w.heap.size ≤ oG)); have uV := aj.mk ((by rw [hg]; exact Nat.ne_of_lt (fB (g := pG) (o := .cells #[.int .i64 aY, .int .i64 bu, .slice bZ bn.length bY] 29 (0, 0)) (by (with_reducible repeat (first | refine aA ?_ _ | refine aH ?_ | refine aC ?_ _)); exact kD.out)) : pG ≠ oG)); have Bo := aj.mk ((by rw [hg]; exact Nat.ne_of_gt (fB (g := pG) (o := .cells #[.int .i64 aY, .int .i64 bu, .slice bZ bn.length bY] 29 (0, 0)) (by (with_reducible repeat (first | refine aA ?_ _ | refine aH ?_ | refine aC ?_ _)); exact kD.out)) : oG ≠ pG)); have OL := aj.mk ((by rw [hg]; exact Nat.ne_of_lt (fB (g := oN) (o := .cells #[.int .i64 0, .int .i64 0, .slice none 0 0] 29 (0, 0)) (by (with_reducible repeat (first | refine aA ?_ _ | refine aH ?_ | refine aC ?_ _)); exact lu.out)) : oN ≠ oG)); have yY := aj.mk ((by rw [hg]; exact Nat.ne_of_gt (fB (g := oN) (o := .cells #[.int .i64 0, .int .i64 0, .slice none 0 0] 29 (0, 0)) (by (with_reducible repeat (first | refine aA ?_ _ | refine aH ?_ | refine aC ?_ _)); exact lu.out)) : oG ≠ oN)); clear Le; clear kD; clear lu; clear HB; have Le := bJ; have kD := dP; have lu := dY; have HB := fH; have lg := jM; have akG := kQ; have Vf := kY; have uh := uV; have GV := Bo; have ug := OL; have GU := yY; clear bJ dP dY fH jM kQ kY uV Bo OL yY; clear hb hbox hg; have alE := GV.out; have alB := uh.out; have XQ := GU.out; have XM := ug.out; have xI : w8.cell? ⟨oG, 0, none⟩ = some (.int .i64 0) := (az lg.out 0).trans rfl; have xH : w8.cell? ⟨oG, 1, none⟩ = some (.int .i64 0) := (az lg.out 1).trans rfl; have xG : w8.cell? ⟨oG, 2, none⟩ = some (.slice none 0 0) := (az lg.out 2).trans rfl; have xw := ay lg.out 0; have xu := ay lg.out 1; have xq := ay lg.out 2; obtain ⟨SA, RI, Us⟩ := Kd.je Le.out; subst Us))
 go_loopg [15] k (fun kq v15 w' => ∃ (jf : Int) (gq : List Int) (u147002 : Value), v15 = .int .i64 jf ∧ aj (dB.l0 kq t139 jf t139 t140 gq = some (r1, r2, r3)) ∧ aj (kq ≤ k) ∧ aj (Kd.R (Kd.int .i64) 22 w' w.heap.size (fun _ => True) u147002 gq) ∧ aj (w'.heap[pG]? = some (.cells #[.int .i64 aY, .int .i64 bu, (.slice bZ bn.length bY)] 29 (0, 0))) ∧ aj (w'.heap[oN]? = some (.cells #[.int .i64 0, .int .i64 0, (.slice none 0 0)] 29 (0, 0))) ∧ aj (w'.heap[oG]? = some (.cells #[.int .i64 t139, .int .i64 t140, u147002] 29 (0, 0))) ∧ aj (Below w.heap.size w w'))
 case atStart => exact ⟨(0), (t141), (.slice SA t141.length RI), (by first | rfl | (simp; done) | (simp [*]; done)), H', ⟨Nat.le_refl _⟩, ⟨by (with_reducible repeat (first | apply Kd.dO | apply Kd.dN | apply Kd.eG)); exact Kd.jc (Kd.gI (p := ⟨oG, 2, none⟩) (Kd.gI (p := ⟨oG, 1, none⟩) (Kd.gI (p := ⟨oG, 0, none⟩) (Kd.l_ Le.out lg.out (by decide)) (fun _ hk => hk.2) (.int .i64 t139)) (fun _ hk => hk.2) (.int .i64 t140)) (fun _ hk => hk.2) (.slice SA t141.length RI)) (fun _ hk => trivial)⟩, ⟨by (with_reducible repeat (first | refine aA ?_ _ | refine aH ?_ | refine aC ?_ _)); refine iw ?_ uh.out _; (with_reducible repeat (first | refine aA ?_ _ | refine aH ?_ | refine aC ?_ _)); refine iw ?_ uh.out _; (with_reducible repeat (first | refine aA ?_ _ | refine aH ?_ | refine aC ?_ _)); refine iw ?_ uh.out _; (with_reducible repeat (first | refine aA ?_ _ | refine aH ?_ | refine aC ?_ _)); exact kD.out⟩, ⟨by (with_reducible repeat (first | refine aA ?_ _ | refine aH ?_ | refine aC ?_ _)); refine iw ?_ ug.out _; (with_reducible repeat (first | refine aA ?_ _ | refine aH ?_ | refine aC ?_ _)); refine iw ?_ ug.out _; (with_reducible repeat (first | refine aA ?_ _ | refine aH ?_ | refine aC ?_ _)); refine iw ?_ ug.out _; (with_reducible repeat (first | refine aA ?_ _ | refine aH ?_ | refine aC ?_ _)); exact lu.out⟩, ⟨by (with_reducible repeat (first | refine aA ?_ _ | refine aH ?_ | refine aC ?_ _)); refine bM (cs := #[.int .i64 t139, .int .i64 t140, .slice none 0 0]) ?_ 2 _ rfl; (with_reducible repeat (first | refine aA ?_ _ | refine aH ?_ | refine aC ?_ _)); refine bM (cs := #[.int .i64 t139, .int .i64 0, .slice none 0 0]) ?_ 1 _ rfl; (with_reducible repeat (first | refine aA ?_ _ | refine aH ?_ | refine aC ?_ _)); refine bM (cs := #[.int .i64 0, .int .i64 0, .slice none 0 0]) ?_ 0 _ rfl; (with_reducible repeat (first | refine aA ?_ _ | refine aH ?_ | refine aC ?_ _)); exact lg.out⟩, ⟨by repeat (first | (with_reducible first | exact HB.out | apply ak | apply ah | apply au | refine aG ?_ wM.out | refine aG ?_ BR.out | refine aG ?_ Vf.out) | exact HB.out)⟩⟩
 case round =>
  clear H'; (try clear c1); (try clear p2); (try clear c5); (try clear c9); (try clear c10); (try clear xI); (try clear xH); (try clear xG); (try clear sZ); (try clear sW); (try clear uJ); (try clear xw); (try clear xu); (try clear xq); (try clear sV); (try clear sU); (try clear uI); obtain ⟨jf, gq, u147002, rfl, HA, EO, iU, kD, lu, lg, HB⟩ := hrel
  cases gk with
  | zero => exact absurd HA.out (by simp [dB.l0])
  | succ k1 =>
    have H := HA.out; clear HA; simp only [dB.l0] at H
    by_cases c13 : jf < t139
    · rw [if_pos c13] at H
      have uZ : decide (jf < t139) = true := decide_eq_true c13; clear c13
      obtain ⟨qO, Ua⟩ : ∃ j_ : Int, (wrap64 ((wrap64 (jf * t140)) + jf)) = j_ := ⟨_, rfl⟩
      replace H : (if 0 ≤ (qO) then (if (qO) < (gq.length : Int) then (dB.l0 k1 t139 (wrap64 (jf + 1)) t139 t140 (gq.set ((qO) : Int).toNat (mx (rd gq (qO)) 0))) else (none)) else (none)) = some (r1, r2, r3) := by first | (rw [Ua] at H; exact H) | (simp only [Ua] at H ⊢; exact H)
      have agT : (IntKind.i64.wrap ((wrap64 (jf * t140)) + jf)) = qO := (bT _).trans Ua
      by_cases c15 : 0 ≤ (qO)
      · rw [if_pos c15] at H
        have Gy : decide (0 ≤ (qO)) = true := decide_eq_true c15; clear c15
        by_cases c16 : (qO) < (gq.length : Int)
        · rw [if_pos c16] at H
          have EG : decide ((qO) < (gq.length : Int)) = true := decide_eq_true c16; clear c16
          obtain ⟨kF, qQ⟩ : ∃ j_ : Int, (mx (rd gq (qO)) 0) = j_ := ⟨_, rfl⟩
          replace H : (dB.l0 k1 t139 (wrap64 (jf + 1)) t139 t140 (gq.set ((qO) : Int).toNat (kF))) = some (r1, r2, r3) := by first | (rw [qQ] at H; exact H) | (simp only [qQ] at H ⊢; exact H)
          have Y0 : (if (rd gq (qO)) < 0 then 0 else (rd gq (qO))) = kF := qQ
          obtain ⟨aay, J9⟩ : ∃ y_ : List Int, y_ = (gq.set ((qO) : Int).toNat (kF)) := ⟨_, rfl⟩
          replace H : (dB.l0 k1 t139 (wrap64 (jf + 1)) t139 t140 aay) = some (r1, r2, r3) := by first | (rw [J9]; with_reducible exact H) | (have ES := (Option.bind_some _ _).symm.trans H; rw [J9]; with_reducible exact ES) | (have ES := (Option.bind_some _ _).symm.trans H; with_reducible exact ES) | with_reducible exact H | (rw [J9]; exact H) | exact H
          have acB := aj.mk J9; clear J9; have H' := aj.mk H; clear H
          try go_wp2
          have bJ := aj.mk (Kd.eG iU.out); have dP := aj.mk (aH kD.out); have dY := aj.mk (aH lu.out); have fH := aj.mk (aH lg.out); have jM := aj.mk (au HB.out); clear iU; clear kD; clear lu; clear lg; clear HB; have iU := bJ; have kD := dP; have lu := dY; have lg := fH; have HB := jM; clear bJ dP dY fH jM; obtain ⟨Xt, RD, Uo⟩ := Kd.je iU.out
          (first | subst Uo | (injection Uo with Gm Rf Gl; have Q_ := Gm.symm; have Q9 := Gl.symm; clear Gm Rf Gl; subst Q_; subst Q9))
          have YC : 0 ≤ ((qO) : Int) := of_decide_eq_true (by first | (with_reducible assumption) | assumption); have YA : (qO) < (gq.length : Int) := of_decide_eq_true (by first | (with_reducible assumption) | assumption); obtain ⟨ajC, ahC, Iu⟩ := Kd.gZ (Kd.kT iU.out).2.2 (qO) YC YA
          cases ahC
          replace YC := eq_true YC; replace YA := eq_true YA; have p18 : 0 ≤ ((qO) : Int) := of_decide_eq_true (by first | (with_reducible assumption) | assumption); have q18 : ((qO) : Int) < ((gq.length : Int) : Int) := of_decide_eq_true (by first | (with_reducible assumption) | assumption); obtain ⟨Zg, WW, Ur, abb, ahm, al8, ac3⟩ := Kd.UU iU.out (by omega)
          (first | cases Ur | (injection Ur with WU en_ ec_; (first | subst WU | (injection WU with WU; subst WU)); subst ec_; clear en_))
          have aiA := aj.mk abb; have aiy := aj.mk ac3; clear abb ahm ac3
          (first | simp only [add_plain] at Iu | skip)
          obtain ⟨YR, Y9⟩ := Kd.Qb 0 iU.out ((qO) : Int) p18 q18; replace p18 := eq_true p18; replace q18 := eq_true q18; have Z5 := Kd.UQ iU.out ((qO) : Int) kF; rw [← acB.out] at Z5; have acX := aj.mk Z5; clear Z5; refine zU (n := 21) (S := fun w' => w'.cell? ⟨oG, 0, none⟩ = some (.int .i64 t139) ∧ w'.cell? ⟨oG, 1, none⟩ = some (.int .i64 t140) ∧ w'.cell? ⟨oG, 2, none⟩ = some (.slice (some ⟨Zg, 0, none⟩) gq.length RD) ∧ w'.cell? ⟨Zg, ((qO)).toNat, none⟩ = some (.int .i64 (rd gq (qO)))) (ds := [20]) #[false, false, false, false, false, false, false, false, false, false, false, false, false, false, false, false, false, false, false, false, false] (by kernel_rfl) rfl rfl ⟨(az lg.out 0).trans rfl, (az lg.out 1).trans rfl, (az lg.out 2).trans rfl, Iu⟩ (fun hHeld => ?_); refine qA dB.af8 dB.abH (fun jh Fa => ?_)
          generalize wr.drew = w19 at iU kD lu lg HB aiy acX Y9 Iu YR hHeld ⊢; refine fG (i := 0) (N := some 18) (v := ?_) (a' := ?_) #[true, false, false, false, false, false, false, false, false, false, false, false, false, false, false, false, false, false, false, false, false] rfl rfl (dM jh.out (by kernel_rfl)) (fun _ _ _ h => h) (Or.inl ⟨by rfl, ?_⟩) ?_ ?_
          rotate_left
          · intro w'
            go_simp
            with_reducible rfl
          rotate_left
          · simp only [Act.put, List.setIfInBounds_toArray, List.set_cons_zero, List.set_cons_succ, bT, b_]
            rfl
          refine fG (i := 2) (N := some 20) (v := ?_) (a' := ?_) #[true, false, true, false, false, false, false, false, false, false, false, false, false, false, false, false, false, false, false, false, false] rfl rfl (dM jh.out (by kernel_rfl)) (fun _ _ _ h => h) (Or.inl ⟨by rfl, ?_⟩) ?_ ?_
          rotate_left
          · intro w'
            go_simp
            with_reducible rfl
          rotate_left
          · simp only [Act.put, List.setIfInBounds_toArray, List.set_cons_zero, List.set_cons_succ, bT, b_]
            rfl
          refine fG (i := 3) (N := some 21) (v := ?_) (a' := ?_) #[true, false, true, true, false, false, false, false, false, false, false, false, false, false, false, false, false, false, false, false, false] rfl rfl (dM jh.out (by kernel_rfl)) (fun _ _ _ h => h) (Or.inl ⟨by rfl, ?_⟩) ?_ ?_
          rotate_left
          · intro w'
            go_simp
            with_reducible rfl
          rotate_left
          · simp only [Act.put, List.setIfInBounds_toArray, List.set_cons_zero, List.set_cons_succ, bT, b_]
            rfl
          refine fG (i := 6) (N := some 24) (v := ?_) (a' := ?_) #[true, false, true, true, false, false, true, false, false, false, false, false, false, false, false, false, false, false, false, false, false] rfl rfl (dM jh.out (by kernel_rfl)) (fun _ _ _ h => h) (Or.inl ⟨by rfl, ?_⟩) ?_ ?_
          rotate_left
          · intro w'
            go_simp
            with_reducible rfl
          rotate_left
          · simp only [Act.put, List.setIfInBounds_toArray, List.set_cons_zero, List.set_cons_succ, bT, b_]
            rfl
          refine fG (i := 8) (N := some 26) (v := ?_) (a' := ?_) #[true, false, true, true, false, false, true, false, true, false, false, false, false, false, false, false, false, false, false, false, false] rfl rfl (dM jh.out (by kernel_rfl)) (fun _ _ _ h => h) (Or.inl ⟨by rfl, ?_⟩) ?_ ?_
          rotate_left
          · intro w'
            go_simp
            with_reducible rfl
          rotate_left
          · simp only [Act.put, List.setIfInBounds_toArray, List.set_cons_zero, List.set_cons_succ, bT, b_]
            rfl
          refine fG (i := 10) (N := some 28) (v := ?_) (a' := ?_) #[true, false, true, true, false, false, true, false, true, false, true, false, false, false, false, false, false, false, false, false, false] rfl rfl (dM jh.out (by kernel_rfl)) (fun _ _ _ h => h) (Or.inl ⟨by rfl, ?_⟩) ?_ ?_
          rotate_left
          · intro w'
            go_simp
            with_reducible rfl
          rotate_left
          · simp only [Act.put, List.setIfInBounds_toArray, List.set_cons_zero, List.set_cons_succ, bT, b_]
            rfl
          refine fG (i := 11) (N := some 29) (v := ?_) (a' := ?_) #[true, false, true, true, false, false, true, false, true, false, true, true, false, false, false, false, false, false, false, false, false] rfl rfl (dM jh.out (by kernel_rfl)) (fun _ _ _ h => h) (Or.inl ⟨by rfl, ?_⟩) ?_ ?_
          rotate_left
          · intro w'
            go_simp
            with_reducible rfl
          rotate_left
          · simp only [Act.put, List.setIfInBounds_toArray, List.set_cons_zero, List.set_cons_succ, bT, b_]
            rfl
          refine fG (i := 14) (N := some 32) (v := ?_) (a' := ?_) #[true, false, true, true, false, false, true, false, true, false, true, true, false, false, true, false, false, false, false, false, false] rfl rfl (dM jh.out (by kernel_rfl)) (fun _ _ _ h => h) (Or.inl ⟨by rfl, ?_⟩) ?_ ?_
          rotate_left
          · intro w'
            go_simp
            with_reducible rfl
          rotate_left
          · simp only [Act.put, List.setIfInBounds_toArray, List.set_cons_zero, List.set_cons_succ, bT, b_]
            rfl
          refine pq (i := 1) (N := some 19) (v := ?_) (a' := ?_) #[true, true, true, true, false, false, true, false, true, false, true, true, false, false, true, false, false, false, false, false, false] rfl rfl (iR jh.out Fa.out (by kernel_rfl)) (fun _ _ _ h => h) (Or.inl ⟨by rfl, ?_⟩) hHeld ?_ ?_
          rotate_left
          · rintro w' ⟨s0, s1, s2, s3⟩
            go_simp
            with_reducible rfl
          rotate_left
          · simp only [Act.put, List.setIfInBounds_toArray, List.set_cons_zero, List.set_cons_succ, bT, b_]
            rfl
          refine pq (i := 4) (N := some 22) (v := ?_) (a' := ?_) #[true, true, true, true, true, false, true, false, true, false, true, true, false, false, true, false, false, false, false, false, false] rfl rfl (iR jh.out Fa.out (by kernel_rfl)) (fun _ _ _ h => h) (Or.inl ⟨by rfl, ?_⟩) hHeld ?_ ?_
          rotate_left
          · rintro w' ⟨s0, s1, s2, s3⟩
            go_simp
            with_reducible rfl
          rotate_left
          · simp only [Act.put, List.setIfInBounds_toArray, List.set_cons_zero, List.set_cons_succ, bT, b_]
            rfl
          refine fG (i := 5) (N := some 23) (v := ?_) (a' := ?_) #[true, true, true, true, true, true, true, false, true, false, true, true, false, false, true, false, false, false, false, false, false] rfl rfl (dM jh.out (by kernel_rfl)) (fun _ _ _ h => h) (Or.inl ⟨by rfl, ?_⟩) ?_ ?_
          rotate_left
          · intro w'
            go_simp
            with_reducible rfl
          rotate_left
          · simp only [Act.put, List.setIfInBounds_toArray, List.set_cons_zero, List.set_cons_succ, bT, b_]
            rfl
          refine fG (i := 7) (N := some 25) (v := ?_) (a' := ?_) #[true, true, true, true, true, true, true, true, true, false, true, true, false, false, true, false, false, false, false, false, false] rfl rfl (dM jh.out (by kernel_rfl)) (fun _ _ _ h => h) (Or.inl ⟨by rfl, ?_⟩) ?_ ?_
          rotate_left
          · intro w'
            go_simp
            with_reducible rfl
          rotate_left
          · simp only [Act.put, List.setIfInBounds_toArray, List.set_cons_zero, List.set_cons_succ, bT, b_]
            rfl
          refine pq (i := 9) (N := some 27) (v := ?_) (a' := ?_) #[true, true, true, true, true, true, true, true, true, true, true, true, false, false, true, false, false, false, false, false, false] rfl rfl (iR jh.out Fa.out (by kernel_rfl)) (fun _ _ _ h => h) (Or.inl ⟨by rfl, ?_⟩) hHeld ?_ ?_
          rotate_left
          · rintro w' ⟨s0, s1, s2, s3⟩
            go_simp
            with_reducible rfl
          rotate_left
          · simp only [Act.put, List.setIfInBounds_toArray, List.set_cons_zero, List.set_cons_succ, bT, b_]
            rfl
          refine pq (i := 12) (N := some 30) (v := ?_) (a' := ?_) #[true, true, true, true, true, true, true, true, true, true, true, true, true, false, true, false, false, false, false, false, false] rfl rfl (iR jh.out Fa.out (by kernel_rfl)) (fun _ _ _ h => h) (Or.inl ⟨by rfl, ?_⟩) hHeld ?_ ?_
          rotate_left
          · rintro w' ⟨s0, s1, s2, s3⟩
            go_simp
            with_reducible rfl
          rotate_left
          · simp only [Act.put, List.setIfInBounds_toArray, List.set_cons_zero, List.set_cons_succ, bT, b_]
            rfl
          refine fG (i := 13) (N := some 31) (v := ?_) (a' := ?_) #[true, true, true, true, true, true, true, true, true, true, true, true, true, true, true, false, false, false, false, false, false] rfl rfl (dM jh.out (by kernel_rfl)) (fun _ _ _ h => h) (Or.inl ⟨by rfl, ?_⟩) ?_ ?_
          rotate_left
          · intro w'
            go_simp
            with_reducible rfl
          rotate_left
          · simp only [Act.put, List.setIfInBounds_toArray, List.set_cons_zero, List.set_cons_succ, bT, b_]
            rfl
          refine fG (i := 15) (N := some 33) (v := ?_) (a' := ?_) #[true, true, true, true, true, true, true, true, true, true, true, true, true, true, true, true, false, false, false, false, false] rfl rfl (dM jh.out (by kernel_rfl)) (fun _ _ _ h => h) (Or.inl ⟨by rfl, ?_⟩) ?_ ?_
          rotate_left
          · intro w'
            go_simp
            with_reducible rfl
          rotate_left
          · simp only [Act.put, List.setIfInBounds_toArray, List.set_cons_zero, List.set_cons_succ, bT, b_]
            rfl
          refine fG (i := 16) (N := some 34) (v := ?_) (a' := ?_) #[true, true, true, true, true, true, true, true, true, true, true, true, true, true, true, true, true, false, false, false, false] rfl rfl (dM jh.out (by kernel_rfl)) (fun _ _ _ h => h) (Or.inl ⟨by rfl, ?_⟩) ?_ ?_
          rotate_left
          · intro w'
            go_simp
            with_reducible rfl
          rotate_left
          · simp only [Act.put, List.setIfInBounds_toArray, List.set_cons_zero, List.set_cons_succ, bT, b_]
            rfl
          refine pq (i := 17) (N := some 35) (v := ?_) (a' := ?_) #[true, true, true, true, true, true, true, true, true, true, true, true, true, true, true, true, true, true, false, false, false] rfl rfl (iR jh.out Fa.out (by kernel_rfl)) (fun _ _ _ h => h) (Or.inl ⟨by rfl, ?_⟩) hHeld ?_ ?_
          rotate_left
          · rintro w' ⟨s0, s1, s2, s3⟩
            go_simp
            with_reducible rfl
          rotate_left
          · simp only [Act.put, List.setIfInBounds_toArray, List.set_cons_zero, List.set_cons_succ, bT, b_]
            rfl
          refine fG (i := 18) (N := some 36) (v := ?_) (a' := ?_) #[true, true, true, true, true, true, true, true, true, true, true, true, true, true, true, true, true, true, true, false, false] rfl rfl (dM jh.out (by kernel_rfl)) (fun _ _ _ h => h) (Or.inl ⟨by rfl, ?_⟩) ?_ ?_
          rotate_left
          · intro w'
            go_simp
            with_reducible rfl
          rotate_left
          · simp only [Act.put, List.setIfInBounds_toArray, List.set_cons_zero, List.set_cons_succ, bT, b_]
            rfl
          refine fG (i := 19) (N := some 37) (v := ?_) (a' := ?_) #[true, true, true, true, true, true, true, true, true, true, true, true, true, true, true, true, true, true, true, true, false] rfl rfl (dM jh.out (by kernel_rfl)) (fun _ _ _ h => h) (Or.inl ⟨by rfl, ?_⟩) ?_ ?_
          rotate_left
          · intro w'
            go_simp
            with_reducible rfl
          rotate_left
          · simp only [Act.put, List.setIfInBounds_toArray, List.set_cons_zero, List.set_cons_succ, bT, b_]
            rfl
          refine XF (i := 20) (N := none) #[true, true, true, true, true, true, true, true, true, true, true, true, true, true, true, true, true, true, true, true, true] rfl rfl (mG jh.out (by kernel_rfl)) (by decide) (fun K hK => ?_)
          refine OE (w1 := ?_) (by rfl) rfl ?_ ?_
          rotate_left
          · go_simp
            rfl
          refine hK.out _ _ ?_
          clear hK K; refine Gt (xK jh.out (by kernel_rfl)) ?_
          try go_wp2
          go_roundg k1
          case measure => have := EO.out; omega
          case rel => exact ⟨(wrap64 (jf + 1)), (aay), (.slice (some ⟨Zg, 0, none⟩) gq.length RD), (by first | rfl | (simp; done) | (simp [*]; done)), H', ⟨by have := EO.out; omega⟩, ⟨by (with_reducible repeat (first | apply Kd.dO | apply Kd.dN | apply Kd.eG)); exact acX.out⟩, ⟨by (with_reducible repeat (first | refine aA ?_ _ | refine aH ?_ | refine aC ?_ _)); refine iw ?_ (by have h_ := Kd.zI iU.out kD.out (by decide); intro e_; exact h_ (by rw [e_]; rfl)) _; (with_reducible repeat (first | refine aA ?_ _ | refine aH ?_ | refine aC ?_ _)); exact kD.out⟩, ⟨by (with_reducible repeat (first | refine aA ?_ _ | refine aH ?_ | refine aC ?_ _)); refine iw ?_ (by have h_ := Kd.zI iU.out lu.out (by decide); intro e_; exact h_ (by rw [e_]; rfl)) _; (with_reducible repeat (first | refine aA ?_ _ | refine aH ?_ | refine aC ?_ _)); exact lu.out⟩, ⟨by (with_reducible repeat (first | refine aA ?_ _ | refine aH ?_ | refine aC ?_ _)); refine iw ?_ (by have h_ := Kd.zI iU.out lg.out (by decide); intro e_; exact h_ (by rw [e_]; rfl)) _; (with_reducible repeat (first | refine aA ?_ _ | refine aH ?_ | refine aC ?_ _)); exact lg.out⟩, ⟨by repeat (first | (with_reducible first | exact HB.out | apply ak | apply ah | apply au | refine aG ?_ aiA.out | refine aG ?_ wM.out | refine aG ?_ BR.out | refine aG ?_ Vf.out) | exact HB.out)⟩⟩
        · rw [if_neg c16] at H
          exact absurd H (by simp)
      · rw [if_neg c15] at H
        exact absurd H (by simp)
    · rw [if_neg c13] at H
      have uZ : decide (jf < t139) = false := decide_eq_false c13; clear c13; simp only [Option.some.injEq, Prod.mk.injEq] at H; obtain ⟨rfl, rfl, rfl⟩ := H; have XN := GV.out; have XK := uh.out; have aa4 := GU.out; have aa1 := ug.out; have Df : wr.cell? ⟨oG, 0, none⟩ = some (.int .i64 t139) := (az lg.out 0).trans rfl; have Dc : wr.cell? ⟨oG, 1, none⟩ = some (.int .i64 t140) := (az lg.out 1).trans rfl; have C_ : wr.cell? ⟨oG, 2, none⟩ = some (u147002) := (az lg.out 2).trans rfl; have C9 := ay lg.out 0; have CZ := ay lg.out 1; have CY := ay lg.out 2; have aa3 := GY.out; have aa0 := GZ.out; have Wu : wr.cell? ⟨oN, 0, none⟩ = some (.int .i64 0) := (az lu.out 0).trans rfl; have Ws : wr.cell? ⟨oN, 1, none⟩ = some (.int .i64 0) := (az lu.out 1).trans rfl; have Wq : wr.cell? ⟨oN, 2, none⟩ = some (.slice none 0 0) := (az lu.out 2).trans rfl; have VT := ay lu.out 0; have VS := ay lu.out 1; have VR := ay lu.out 2; obtain ⟨adn, abo, ahp⟩ := Kd.je iU.out; subst ahp; go_wp2
      refine bodyPost_ret (results_cell_row rfl _ _ oN 29 #[.int .i64 t139, .int .i64 t140, .slice adn gq.length abo] (0, 0) _ rfl (by (with_reducible repeat (first | refine aA ?_ _ | refine aH ?_ | refine aC ?_ _)); refine bM (cs := #[.int .i64 t139, .int .i64 t140, .slice none 0 0]) ?_ 2 _ rfl; (with_reducible repeat (first | refine aA ?_ _ | refine aH ?_ | refine aC ?_ _)); refine bM (cs := #[.int .i64 t139, .int .i64 0, .slice none 0 0]) ?_ 1 _ rfl; (with_reducible repeat (first | refine aA ?_ _ | refine aH ?_ | refine aC ?_ _)); refine bM (cs := #[.int .i64 0, .int .i64 0, .slice none 0 0]) ?_ 0 _ rfl; (with_reducible repeat (first | refine aA ?_ _ | refine aH ?_ | refine aC ?_ _)); exact lu.out) Tryz.underlying29 rfl (by kernel_rfl)) rfl ?_
      exact ⟨_, by first | rfl | (simp [aQ, aN] <;> rfl) | (simp [*, aQ, aN] <;> rfl), by (with_reducible repeat (first | apply Kd.dO | apply Kd.dN | apply Kd.eG)); exact Kd.jc (Kd.gI (p := ⟨oN, 2, none⟩) (Kd.gI (p := ⟨oN, 1, none⟩) (Kd.gI (p := ⟨oN, 0, none⟩) (Kd.l_ iU.out lu.out (by decide)) (fun _ hk => hk.2) (.int .i64 t139)) (fun _ hk => hk.2) (.int .i64 t140)) (fun _ hk => hk.2) (.slice adn gq.length abo)) (fun _ hk => trivial), by repeat (first | (with_reducible first | exact HB.out | apply ak | apply ah | apply au | refine aG ?_ wM.out | refine aG ?_ BR.out | refine aG ?_ Vf.out) | exact HB.out)⟩
end Go.Proofs.YtcfobekkchhbbaaGreat.PR

namespace Go.Proofs.YtcfobekkchhbbaaGreat.PR
open Go.RowKit Go.Proofs.YtcfobekkchhbbaaGreat.PQ Go.Proofs.af.aU Go.Proofs.af.a_ Go.Proofs.af.bf
attribute [local go_sem] jq jm kJ kH iM iL jo jl
set_option linter.unusedVariables false
set_option linter.unusedSimpArgs false
end Go.Proofs.YtcfobekkchhbbaaGreat.PR

namespace Go.Proofs.YtcfobekkchhbbaaGreat.PR
open Go.RowKit Go.Proofs.YtcfobekkchhbbaaGreat.PQ Go.Proofs.af.aU Go.Proofs.af.a_ Go.Proofs.af.bf Go.Proofs.YtcfobekkchhbbaaGreat.KK
set_option linter.unusedVariables false
set_option linter.unusedSimpArgs false
theorem _root_.Go.Proofs.YtcfobekkchhbbaaGreat.KK.Rd.touch {w w' : World} {A : Option Addr} {l : List Int} {g : Nat} (h : Rd w A l) (hg : w.grownBy w' (some g)) (hne : ∀ ad, A = some ad → 0 < l.length → ad.block ≠ g) : Rd w' A l := by
 refine ⟨h.1, h.2.1, fun hp => ?_⟩
 obtain ⟨ad, e, hc⟩ := h.2.2 hp; refine ⟨ad, e, fun j p hj => ?_⟩
 obtain ⟨c, h1, h2, h3⟩ := hc j p hj; refine ⟨c, h1, h2, fun i u hi => ?_⟩
 have hx := h3 i u hi; have hb : (ad.add (j * (Kd.int .i64).sz + i)).block = ad.block := uO _ _; have hlt := cell_lt hx; rw [hb] at hlt; have hk := hg.block ad.block hlt (fun e' => hne ad e hp (by injection e')); rw [← hx]
 unfold World.cell?
 rw [hb, hk]
theorem _root_.Go.Proofs.YtcfobekkchhbbaaGreat.KK.Own.touch {w w' : World} {base g : Nat} {v : Value} {l : List Int} (h : Own w base v l) (hg : w.grownBy w' (some g)) (hb : g < base) : Own w' base v l :=
 Own.sS (nU h.row fun k hk => hg.block k (h.row.lt k hk).2 (fun e => by have := (h.row.lt k hk).1; injection e with e; omega))
structure Sg (w0 : World) (g : Nat) (L : List (TypeId × Array Value)) (w : World) : Prop where
 rows : KK.Rows w w0.heap.size L
 gr : w0.grownBy w (some g)
section
variable {w w' w0 : World} {g : Nat} {L : List (TypeId × Array Value)}
theorem Sg.of (h : bD w0 L w) : Sg w0 g L w := ⟨h.rows, KK.gu h.be _⟩
theorem Sg.below (h : Sg w0 g L w) (hb : Below w.heap.size w w') : Sg w0 g L w' := ⟨h.rows.below hb, dU h.gr (KK.gu hb _)⟩
theorem Sg.alloc (h : Sg w0 g L w) (o : Obj) : Sg w0 g L (w.alloc o) := h.below ((Below.refl _ _).alloc (Nat.le_refl _) o)
theorem Sg.drew (h : Sg w0 g L w) : Sg w0 g L w.drew := h.below (Below.refl _ _).drew
theorem Sg.touch (h : Sg w0 g L w) (hg : w.grownBy w' (some g)) (hlt : g < w0.heap.size) : Sg w0 g L w' :=
 ⟨h.rows.imp fun k t cs hk _ r => r.grown hg (fun e => by injection e with e; omega), dU h.gr hg⟩
variable {x0 x1 x2 x3 x4 x5 : TypeId × Array Value}
theorem Sg.r0 (h : Sg w0 g (x0 :: L) w) : Row w w0.heap.size x0.1 x0.2 := h.rows.1
theorem Sg.r1 (h : Sg w0 g (x0 :: x1 :: L) w) : Row w (w0.heap.size + 1) x1.1 x1.2 := h.rows.2.1
theorem Sg.r2 (h : Sg w0 g (x0 :: x1 :: x2 :: L) w) : Row w (w0.heap.size + 1 + 1) x2.1 x2.2 := h.rows.2.2.1
theorem Sg.r3 (h : Sg w0 g (x0 :: x1 :: x2 :: x3 :: L) w) : Row w (w0.heap.size + 1 + 1 + 1) x3.1 x3.2 := h.rows.2.2.2.1
end
theorem yX (g : Nat) (s o : Bool) (q : Int) (w : World) (R : Row w g 213 #[.bool s]) :
 Calls Tryz.prog 191 #[.pointer (some ⟨g, 0, none⟩), I q, .bool o] w fun e w' => e = .returned (I q) ∧ Row w' g 213 #[.bool (s || o)] ∧ w.grownBy w' (some g) := by
 have x := R.cell; have f := R.free; have HR := Lib.hid (R.set 0 (.bool (s || o))); have HG : Hid (w.grownBy (w.setCell ⟨g, 0, none⟩ (.bool (s || o))) (some g)) := Lib.hid ⟨rfl, rfl, rfl, by simp, fun k hk hne => Below.heap_setCell w _ _ k (fun e => hne (by rw [e]))⟩; clear R
 cases s
 all_goals
  go_enter Tryz.func191, Tryz.ntmps191
  go_wp2
  go_ret
  exact ⟨rfl, by simpa using HR.out, by simpa using HG.out⟩
theorem Qz (w : World) (g j : Nat) (u : Value) : w.grownBy (w.setCell ⟨g, j, none⟩ u) (some g) := ⟨rfl, rfl, rfl, by simp, fun k hk hne => Below.heap_setCell w _ _ k (fun e => hne (by rw [e]))⟩
theorem QO (g : Nat) (s u : Bool) (X : Array Value) (w : World) (R : Row w g 213 #[.bool s]) (W : World) (hW : W = ((w.setCell ⟨g, 0, none⟩ (.bool u)).alloc (.cells X 29)).alloc (.cells X 29)) :
 Row W (w.heap.size + 1) 29 X ∧ Row W g 213 #[.bool u] ∧ w.grownBy W (some g) := by
 subst hW; refine ⟨?_, ?_, ?_⟩
 · have := Row.new ((w.setCell ⟨g, 0, none⟩ (.bool u)).alloc (.cells X 29)) 29 X
   simpa using this
 · exact ((R.set 0 (.bool u)).alloc _).alloc _
 · exact dU (Qz w g 0 _) (KK.gu (((Below.refl _ _).alloc (Nat.le_refl _) _).alloc (by simp) _) _)
theorem qM (g : Nat) (s o : Bool) (a b c : Int) (A : Option Addr) (n cp : Nat) (w : World) (R : Row w g 213 #[.bool s]) :
 Calls Tryz.prog 151 #[.pointer (some ⟨g, 0, none⟩), .agg #[I a, I b, .slice A n cp], .bool o, I c] w fun e w' => e = .returned (.agg #[I a, I b, .slice A n cp]) ∧ Row w' g 213 #[.bool (s || o)] ∧ w.grownBy w' (some g) := by
 have hg := R.lt; have E := Lib.hid (fun u W h => QO g s u #[I a, I b, .slice A n cp] w R W h); have x := R.cell; have f := R.free; clear R
 cases s
 all_goals
  go_enter Tryz.func151, Tryz.ntmps151
  go_wp2
  first
   | exact bodyPost_ret (Vu rfl rfl (E.out o _ rfl).1) rfl ⟨rfl, (E.out o _ rfl).2.1, (E.out o _ rfl).2.2⟩
   | exact bodyPost_ret (Vu rfl rfl (E.out true _ rfl).1) rfl ⟨rfl, (E.out true _ rfl).2.1, (E.out true _ rfl).2.2⟩
end Go.Proofs.YtcfobekkchhbbaaGreat.PR

namespace Go.Proofs.YtcfobekkchhbbaaGreat.PR
open Go.RowKit Go.Proofs.YtcfobekkchhbbaaGreat.PQ Go.Proofs.af.aU Go.Proofs.af.a_ Go.Proofs.af.bf Go.Proofs.YtcfobekkchhbbaaGreat.KK
set_option linter.unusedVariables false
set_option linter.unusedSimpArgs false
theorem JL {w0 w : World} {g : Nat} {s : Bool} (h : aK w0 w g s) : Row w g 213 #[.bool s] := h.1
theorem grown_of {w0 w w' : World} {g : Nat} (hB : Below w0.heap.size w0 w) (hB' : Below w0.heap.size w0 w') (hk : bP w w' g none) : w.grownBy w' (some g) :=
 ⟨hB'.os.trans hB.os.symm, hB'.tape.trans hB.tape.symm, hB'.output.trans hB.output.symm, hk.1, fun k hk' hne => hk.2 k hk' (fun e => hne (by rw [e])) (by simp)⟩
theorem wH {w0 w w' : World} {g : Nat} (hB : Below w0.heap.size w0 w) (hg : w0.heap.size ≤ g) (h : w.grownBy w' (some g)) : Below w0.heap.size w0 w' :=
 ⟨h.os.trans hB.os, h.tape.trans hB.tape, h.output.trans hB.output, Nat.le_trans hB.size h.size, fun k hk => (h.block k (Nat.lt_of_lt_of_le hk hB.size) (fun e => by injection e with e; omega)).trans (hB.block k hk)⟩
theorem VG {w w' : World} {g : Nat} (h : w.grownBy w' (some g)) : bP w w' g none := ⟨h.size, fun k hk hne _ => h.block k hk (fun e => hne (by injection e))⟩
theorem AZ (w0 w : World) (g : Nat) (s : Bool) (bV bW : Int) (A1 : Option Addr) (c1 : Nat) (l1 : List Int) (nR nP : Int) (A2 : Option Addr) (c2 : Nat) (l2 : List Int) (r1 r2 : Int) (r3 : List Int) (r4 : Bool)
 (R : Row w g 213 #[.bool s]) (hg : w0.heap.size ≤ g) (hB : Below w0.heap.size w0 w) (h1 : Rd w A1 l1) (hc1 : l1.length ≤ c1) (hf1 : ∀ ad, A1 = some ad → 0 < l1.length → ad.block ≠ g) (h2 : Rd w A2 l2) (hc2 : l2.length ≤ c2) (hf2 : ∀ ad, A2 = some ad → 0 < l2.length → ad.block ≠ g)
 (h : cO.f s bV bW l1 nR nP l2 = some (r1, r2, r3, r4)) :
 Calls Tryz.prog 154 #[.pointer (some ⟨g, 0, none⟩), .agg #[I bV, I bW, .slice A1 l1.length c1], .agg #[I nR, I nP, .slice A2 l2.length c2]] w fun e w' => ∃ A c, e = .returned (.agg #[I r1, I r2, .slice A r3.length c]) ∧ Own w' w.heap.size (.slice A r3.length c) r3 ∧ Row w' g 213 #[.bool r4] ∧ w.grownBy w' (some g) := by
 refine (cO.calls g s bV bW A1 c1 l1 nR nP A2 c2 l2 r1 r2 r3 r4 w0 w ⟨R, hg⟩ hB h1 hc1 hf1 h2 hc2 hf2 h).mono ?_
 rintro e w' ⟨v, rfl, ho, hI, hb, hk⟩; obtain ⟨A, c, rfl, _, _⟩ := Own.reads ho; exact ⟨A, c, rfl, ho, hI.1, grown_of hB hb hk⟩
theorem Own.first {w : World} {base : Nat} {A : Option Addr} {c : Nat} {l : List Int} (h : Own w base (.slice A l.length c) l) (hp : 0 < l.length) : ∃ b off, A = some ⟨b, off, none⟩ ∧ w.cell? ⟨b, off, none⟩ = some (I (l.getD 0 0)) ∧ base ≤ b := by
 obtain ⟨A', c', he, _, hr⟩ := Own.reads h
 injection he with e1 _ _
 subst e1; obtain ⟨b, off, rfl, _, hc⟩ := hr.cells hp; refine ⟨b, off, rfl, ?_, ?_⟩
 · have := hc 0 _ (jw hp)
   simpa using this
 · exact (h.row.lt b rfl).1
theorem Zh (a b : Int) (A : Option Addr) (n c : Nat) (w : World) : (Instr.field 29 (.agg #[.int .i64 a, .int .i64 b, .slice A n c]) 2).run Tryz.prog w = .ok (.slice A n c) w := by
 have hu := Tryz.underlying29
 have hk : Tryz.prog.cellsOf 27 = 1 := by kernel_rfl
 simp [Instr.field, go_sem, hu, hk, asAgg]
def fA.f (oQ : Bool) (bV : Int) (bW : Int) (bK : List Int) (qw : Int) (qp : Int) (nC : List Int) (nR : Int) (nP : Int) (lZ : List Int) (a3 : Int) (a4 : Int) : Option (Int × Int × Bool) :=
 (jQ.f nR nP lZ bV bW bK).bind fun m => if 0 < m.2.2.1.length then
   ((cO.f (oQ || m.2.2.2.1 || (ng a3 (m.2.2.1.getD 0 0)).2) nR nP lZ qw qp nC).bind fun b => if 0 < b.2.2.1.length then some ((ng a3 (m.2.2.1.getD 0 0)).1, (jL (b.2.2.1.getD 0 0) a4).1, b.2.2.2 || (jL (b.2.2.1.getD 0 0) a4).2) else none) else none
theorem fA.calls (g : Nat) (oQ : Bool) (bV : Int) (bW : Int) (fV : Option Addr) (f_ : Nat) (bK : List Int) (qw : Int) (qp : Int) (vI : Option Addr) (wB : Nat) (nC : List Int) (nR : Int) (nP : Int) (tH : Option Addr) (uN : Nat) (lZ : List Int) (a3 : Int) (a4 : Int) (r1 : Int) (r2 : Int) (r3 : Bool) (w0 w : World) (hI : aK w0 w g oQ) (hB : Below w0.heap.size w0 w)
 (nY : Kd.C (Kd.int .i64) w fV bK.length bK) (oM : bK.length ≤ f_) (Ky : ∀ ad, fV = some ad → 0 < bK.length → ad.block ≠ g) (Ko : Kd.C (Kd.int .i64) w vI nC.length nC) (KA : nC.length ≤ wB) (Ue : ∀ ad, vI = some ad → 0 < nC.length → ad.block ≠ g) (J_ : Kd.C (Kd.int .i64) w tH lZ.length lZ) (Kz : lZ.length ≤ uN) (Kw : ∀ ad, tH = some ad → 0 < lZ.length → ad.block ≠ g)
 (h : fA.f oQ bV bW bK qw qp nC nR nP lZ a3 a4 = some (r1, r2, r3)) :
 Calls Tryz.prog 190 #[.pointer (some ⟨g, 0, none⟩), .agg #[.int .i64 bV, .int .i64 bW, .slice fV bK.length f_, .int .i64 qw, .int .i64 qp, .slice vI nC.length wB], .agg #[.int .i64 nR, .int .i64 nP, .slice tH lZ.length uN], .int .i64 a3, .int .i64 a4] w fun e w' => e = .returned (.tuple #[.int .i64 r1, .int .i64 r2]) ∧ aK w0 w' g r3 ∧ Below w0.heap.size w0 w' ∧ bP w w' g none := by
 unfold fA.f at h
 obtain ⟨⟨m1, m2, lm, fm, em⟩, hm, h⟩ := Option.bind_eq_some_iff.1 h; dsimp only at h
 split at h
 case isFalse => cases h
 rename_i hp; obtain ⟨⟨b1, b2, lb, fb⟩, hbt, h⟩ := Option.bind_eq_some_iff.1 h; dsimp only at h
 split at h
 case isFalse => cases h
 rename_i hp2; simp only [Option.some.injEq, Prod.mk.injEq] at h; obtain ⟨rfl, rfl, rfl⟩ := h; have hgl := (JL hI).lt; have N : Hid (Sg w g [(31, #[I bV, I bW, .slice fV bK.length f_, I qw, I qp, .slice vI nC.length wB]), (29, #[I nR, I nP, .slice tH lZ.length uN])] ((w.alloc (.cells #[I bV, I bW, .slice fV bK.length f_, I qw, I qp, .slice vI nC.length wB] 31)).alloc (.cells #[I nR, I nP, .slice tH lZ.length uN] 29))) := Lib.hid (Sg.of (((bD.none w).push (by simp) _ _).push (by simp) _ _)); have R := Lib.hid (((JL hI).alloc (.cells #[I bV, I bW, .slice fV bK.length f_, I qw, I qp, .slice vI nC.length wB] 31)).alloc (.cells #[I nR, I nP, .slice tH lZ.length uN] 29)); have HG := Lib.hid hI.2; have HB := Lib.hid hB; have C1 := Lib.hid oM; have C5 := Lib.hid KA; have C2 := Lib.hid Kz; have T1 := Lib.hid (fun w' (h : w.grownBy w' (some g)) => Rd.touch nY h Ky); have T5 := Lib.hid (fun w' (h : w.grownBy w' (some g)) => Rd.touch Ko h Ue); have T2 := Lib.hid (fun w' (h : w.grownBy w' (some g)) => Rd.touch J_ h Kw); have F2 := Lib.hid Kw; have F5 := Lib.hid Ue; have HM := Lib.hid hm; have HBT := Lib.hid hbt; have P1 := Lib.hid hp; have P2 := Lib.hid hp2; have GL := Lib.hid hgl; clear hI hB nY oM Ky Ko KA Ue J_ Kz Kw hm hbt hp hp2 hgl
 obtain ⟨z, hz⟩ : ∃ z, ng a3 (lm.getD 0 0) = z := ⟨_, rfl⟩
 obtain ⟨y, hy⟩ : ∃ y, jL (lb.getD 0 0) a4 = y := ⟨_, rfl⟩
 rw [hz] at HBT ⊢; rw [hy]; have HZ := Lib.hid hz; have HY := Lib.hid hy; clear hz hy; obtain ⟨z1, z2⟩ := z; obtain ⟨y1, y2⟩ := y; dsimp only at HBT ⊢; have hmf := KK.hmf; have hfd := Zh
 go_enter Tryz.func190, Tryz.ntmps190
 go_wp2_with fail
 refine (jQ.calls nR nP tH uN lZ bV bW fV f_ bK m1 m2 lm fm em _ (T2.out _ N.out.gr) C2.out (T1.out _ N.out.gr) C1.out HM.out).mono ?_
 rintro e w2 ⟨v, rfl, ho, hb⟩; obtain ⟨Am, cm, rfl, _, _⟩ := Own.reads ho; have O := Lib.hid ho; have N2 := Lib.hid (N.out.below hb); have R2 := Lib.hid (R.out.below hb R.out.lt); clear ho hb
 go_wp2_with fail
 refine (qM g oQ fm m1 m2 em Am lm.length cm w2 R2.out).mono ?_
 rintro e w3 ⟨rfl, hr3, hg3⟩; have O3 := Lib.hid (Own.touch O.out hg3 (by have := GL.out; simp; omega)); have N3 := Lib.hid (N2.out.touch hg3 GL.out); have R3 := Lib.hid hr3; clear hr3 hg3; obtain ⟨bm, om, rfl, x, _⟩ := Own.first O3.out P1.out
 have hlm : (0 : Int) < lm.length := by have := P1.out; omega
 go_wp2_with fail
 refine (zT a3 (lm.getD 0 0) w3).mono ?_
 rw [HZ.out]; rintro e w4 ⟨rfl, hb⟩; have N4 := Lib.hid (N3.out.below hb); have R4 := Lib.hid (R3.out.below hb R3.out.lt); clear hb x
 go_wp2_with fail
 refine (yX g (oQ || fm) z2 z1 w4 R4.out).mono ?_
 rintro e w5 ⟨rfl, hr5, hg5⟩; have N5 := Lib.hid (N4.out.touch hg5 GL.out); have R5 := Lib.hid hr5; clear hr5 hg5; have x0 := N5.out.r0.cell; have x1 := N5.out.r1.cell
 go_wp2_with fail
 refine (AZ w0 w5 g _ nR nP tH uN lZ qw qp vI wB nC b1 b2 lb fb R5.out HG.out (wH HB.out HG.out N5.out.gr) (T2.out _ N5.out.gr) C2.out F2.out (T5.out _ N5.out.gr) C5.out F5.out HBT.out).mono ?_
 rintro e w6 ⟨Ab, cb, rfl, ho, hr6, Y1⟩; have N6 := Lib.hid (N5.out.touch Y1 GL.out); have R6 := Lib.hid hr6; obtain ⟨bb, ob, rfl, x, _⟩ := Own.first ho P2.out
 have hlb : (0 : Int) < lb.length := by have := P2.out; omega
 clear hr6 Y1 ho x0 x1 hlm
 go_wp2_with fail
 refine (xP (lb.getD 0 0) a4 w6).mono ?_
 rw [HY.out]; rintro e w7 ⟨rfl, hb⟩; have N7 := Lib.hid (N6.out.below hb); have R7 := Lib.hid (R6.out.below hb R6.out.lt); clear hb x
 go_wp2_with fail
 refine (yX g fb y2 y1 w7 R7.out).mono ?_
 rintro e w8 ⟨rfl, hr8, hg8⟩; have N8 := Lib.hid (N7.out.touch hg8 GL.out); have R8 := Lib.hid hr8; clear hr8 hg8; go_wp2
 go_ret2
 exact ⟨rfl, ⟨R8.out, HG.out⟩, wH HB.out HG.out N8.out.gr, VG N8.out.gr⟩
end Go.Proofs.YtcfobekkchhbbaaGreat.PR

namespace Go.Proofs.YtcfobekkchhbbaaGreat.PR
open Go.RowKit Go.Proofs.YtcfobekkchhbbaaGreat.PQ Go.Proofs.af.aU Go.Proofs.af.a_ Go.Proofs.af.bf Go.Proofs.YtcfobekkchhbbaaGreat.KK
set_option linter.unusedVariables false
set_option linter.unusedSimpArgs false
theorem Rl (a b : Int) (w : World) : Calls Tryz.prog 144 #[I a, I b] w fun e w' => e = .returned (.tuple #[I (Gs a b).1, .bool (Gs a b).2]) ∧ Below w.heap.size w w' := by
 obtain ⟨k, hk⟩ := abl a b; exact pz.calls k a b _ _ w (hk k (Nat.le_refl _))
def yC (n : Nat) (L : List Int) : Nat → List Int
 | 0 => L
 | j + 1 => (yC n L j).set (j * n + j) (mx (rd (yC n L j) (((j * n + j : Nat)) : Int)) 0)
def zi (n : Nat) (l : List Int) : List Int := yC n (Gq n l) n
theorem yg (n : Nat) (L : List Int) (j : Nat) : (yC n L j).length = L.length := by
 induction j with
 | zero => rfl
 | succ j ih => simp only [yC, List.length_set, ih]
theorem zn (n : Nat) (l : List Int) : (Gq n l).length = n * n := upto_length
theorem Q7 (n : Nat) (L : List Int) (hn : n ≤ 8) (hL : L.length = n * n) : ∀ (d j : Nat), j + d = n → dB.l0 (d + 1) n j n n (yC n L j) = some ((n : Int), (n : Int), yC n L n) := by
 intro d
 induction d with
 | zero =>
   intro j hj
   obtain rfl : j = n := by omega
   unfold dB.l0
   rw [if_neg (by omega)]
 | succ d ih =>
   intro j hj; have hlt := kX (r := n) (c := n) (i := j) (k := j) (by omega) (by omega); have hle : n * n ≤ 8 * 8 := Nat.mul_le_mul hn hn
   have e1 : (j : Int) * (n : Int) = ((j * n : Nat) : Int) := by push_cast; rfl
   have e2 : wrap64 ((j : Int) * (n : Int)) = ((j * n : Nat) : Int) := by rw [e1]; exact Lp (by omega) (by omega)
   have e3 : wrap64 (((j * n : Nat) : Int) + (j : Int)) = ((j * n + j : Nat) : Int) := by rw [Lp (by omega) (by omega)]; push_cast; rfl
   have e4 : wrap64 ((j : Int) + 1) = ((j + 1 : Nat) : Int) := by rw [Lp (by omega) (by omega)]; push_cast; rfl
   unfold dB.l0
   rw [if_pos (by omega), e2, e3, if_pos (by omega), if_pos (by rw [yg, hL]; omega), e4, Int.toNat_natCast]; exact ih (j + 1) (by omega)
theorem Q5 (n : Nat) (l : List Int) (hn : n ≤ 8) (hl : l.length = n * n) : dB.f (n + 1) n n l = some ((n : Int), (n : Int), zi n l) := by
 have e1 : (l.length : Int) = (n : Int) * (n : Int) := by rw [hl]; push_cast; rfl
 unfold dB.f qL.f
 rw [if_pos ⟨rfl, by omega, by omega, by omega, by omega, e1⟩]; simp only [Option.bind_some, Int.toNat_natCast]; exact Q7 n (Gq n l) hn (zn n l) n 0 (by omega)
theorem Ef (n : Nat) (A : Option Addr) (c : Nat) (l : List Int) (w : World) (hn : n ≤ 8) (hl : l.length = n * n) (hA : Rd w A l) (hc : l.length ≤ c) :
 Calls Tryz.prog 155 #[.agg #[I n, I n, .slice A l.length c]] w fun e w' => ∃ A2 c2, e = .returned (.agg #[I n, I n, .slice A2 (zi n l).length c2]) ∧ Own w' w.heap.size (.slice A2 (zi n l).length c2) (zi n l) ∧ Below w.heap.size w w' := by
 refine (dB.calls (n + 1) n n A c l _ _ _ w hA hc (Q5 n l hn hl)).mono ?_
 rintro e w' ⟨v, rfl, ho, hb⟩; obtain ⟨A2, c2, rfl, _, _⟩ := Own.reads ho; exact ⟨A2, c2, rfl, ho, hb⟩
def jI (r n : Nat) (a p : List Int) : List Int := mulL r n r (mulL r n n a p) (yM r n a)
def pJ (r n : Nat) (a p : List Int) : Bool := uy r n n a p || uy r n r (mulL r n n a p) (yM r n a)
theorem lC (r c1 c2 : Nat) (l m : List Int) : (mulL r c1 c2 l m).length = r * c2 := upto_length
theorem shape {r c : Nat} {l : List Int} (hr : r ≤ 8) (hc : c ≤ 8) (hl : l.length = r * c) : 0 ≤ (r : Int) ∧ (r : Int) ≤ 8 ∧ 0 ≤ (c : Int) ∧ (c : Int) ≤ 8 ∧ (l.length : Int) = (r : Int) * (c : Int) :=
 ⟨by omega, by omega, by omega, by omega, by rw [hl]; push_cast; rfl⟩
theorem DR {r c1 c2 : Nat} {l m : List Int} (hr : r ≤ 8) (h1 : c1 ≤ 8) (h2 : c2 ≤ 8) (hl : l.length = r * c1) (hm : m.length = c1 * c2) : jQ.f r c1 l c1 c2 m = some ((r : Int), (c2 : Int), mulL r c1 c2 l m, uy r c1 c2 l m, 0) := by
 unfold jQ.f
 rw [if_pos rfl, if_pos ⟨shape hr h1 hl, shape h1 h2 hm⟩]; simp only [Int.toNat_natCast]
theorem LJ {r c : Nat} {l : List Int} (hr : r ≤ 8) (hc : c ≤ 8) (hl : l.length = r * c) : kU.f r c l = some ((c : Int), (r : Int), yM r c l) := by
 unfold kU.f
 rw [if_pos (shape hr hc hl)]; simp only [Int.toNat_natCast]
theorem Hy (s : Bool) (a b : Int) (l : List Int) (o : Bool) (e : Int) : dX.f s a b l o e = some (a, b, l, s || o) := by
 unfold dX.f
 cases s <;> simp
theorem uP (s : Bool) (r n : Nat) (a p : List Int) (hr : r ≤ 8) (hn : n ≤ 8) (ha : a.length = r * n) (hp : p.length = n * n) :
 cO.f s r n a n n p = some ((r : Int), (r : Int), jI r n a p, s || pJ r n a p) := by
 unfold cO.f
 simp only [DR hr hn hn ha hp, Option.bind_some, Hy, LJ hr hn ha, DR hr hn hr (lC _ _ _ _ _) (qG r n a)]
 simp [jI, pJ, Bool.or_assoc]
theorem tq {w w' : World} {r : Option Nat} (h : w.grownBy w' r) {p : Addr} (hp : w.heap.size ≤ p.block) (u : Value) : w.grownBy (w'.setCell p u) r :=
 ⟨h.os, h.tape, h.output, by simpa using h.size, fun k hk hne => (Below.heap_setCell w' p u k (by omega)).trans (h.block k hk hne)⟩
theorem zh {w w' : World} {r : Option Nat} (h : w.grownBy w' r) {C : Nat} (hp : w.heap.size ≤ C) (a b c : Value) : w.grownBy (dK w' C a b c) r :=
 tq (tq (tq h (p := ⟨C, 0, none⟩) hp a) (p := ⟨C, 1, none⟩) hp b) (p := ⟨C, 2, none⟩) hp c
theorem yO (g kb pb n : Nat) (s : Bool) (A : Option Addr) (cp : Nat) (k : List Int) (q : Int) (w : World) (hn : n ≤ 8) (hk : k.length = n * 1) (hA : Rd w A k) (hcp : k.length ≤ cp)
 (Rk : Row w kb 29 #[I n, I 1, .slice A k.length cp]) (Rp : Row w pb 211 #[.pointer (some ⟨g, 0, none⟩)]) (R : Row w g 213 #[.bool s]) :
 Calls Tryz.prog 202 #[I q, .pointer (some ⟨kb, 0, none⟩), .pointer (some ⟨pb, 0, none⟩)] w fun e w' => ∃ A2 c2, e = .returned (.agg #[I n, I 1, .slice A2 (mF n 1 k q).length c2]) ∧ Own w' w.heap.size (.slice A2 (mF n 1 k q).length c2) (mF n 1 k q) ∧ Row w' g 213 #[.bool (s || scaleB n 1 k q)] ∧ w.grownBy w' (some g) := by
 have hgl := R.lt; have N : Hid (Sg w g [(29, #[I 0, I 0, .slice none 0 0])] (w.alloc (.cells #[I 0, I 0, .slice none 0 0] 29))) := Lib.hid (Sg.of ((bD.none w).push (by simp) _ _)); have HS := Lib.hid (QN n 1 A cp k q _ hn (by omega) hk (hA.below ((Below.refl _ _).alloc (Nat.le_refl _) (.cells #[I 0, I 0, .slice none 0 0] 29))) hcp); have x0 := (Rk.alloc (.cells #[I 0, I 0, .slice none 0 0] 29)).cell; have RP := Lib.hid (Rp.alloc (.cells #[I 0, I 0, .slice none 0 0] 29)); have RG := Lib.hid (R.alloc (.cells #[I 0, I 0, .slice none 0 0] 29)); have GL := Lib.hid hgl
 obtain ⟨L, hL⟩ : ∃ L, mF n 1 k q = L := ⟨_, rfl⟩
 obtain ⟨b, hb⟩ : ∃ b, scaleB n 1 k q = b := ⟨_, rfl⟩
 rw [hL, hb] at HS ⊢; clear hn hk hA hcp Rk Rp R hgl hL hb
 go_enter Tryz.func202, Tryz.ntmps202
 go_wp2_with fail
 refine HS.out.mono ?_
 rintro e w2 ⟨v, rfl, ho, hb⟩; obtain ⟨A2, c2, rfl, _, _⟩ := Own.reads ho; have O := Lib.hid ho; have N2 := Lib.hid ((N.out.below hb).alloc (.cells #[I n, I 1, .slice A2 L.length c2] 29)); have RP2 := Lib.hid (RP.out.below hb RP.out.lt); have RG2 := Lib.hid ((RG.out.below hb RG.out.lt).alloc (.cells #[I n, I 1, .slice A2 L.length c2] 29)); clear ho hb x0; have x1 := RP2.out.cell; have x2 := RP2.out.lt
 go_wp2_with fail
 refine (qM g s b n 1 0 A2 L.length c2 _ RG2.out).mono ?_
 rintro e w3 ⟨rfl, hr3, hg3⟩; have O3 := Lib.hid (Own.touch (O.out.alloc _) hg3 (by have := GL.out; simp; omega)); have N3 := Lib.hid (N2.out.touch hg3 GL.out); have R3 := Lib.hid hr3; clear hr3 hg3 x1 x2; have x1 := N3.out.r0.cell; have g1 := N3.out.r0.free; go_wp2
 refine bodyPost_ret (Vu rfl rfl (N3.out.r0.dK _ _ _)) rfl ⟨_, _, rfl, ?_, R3.out.rG (by have := GL.out; omega), zh N3.out.gr (Nat.le_refl _) _ _ _⟩
 exact (O3.out.dK (by simp) _ _ _).lower (by simp)
end Go.Proofs.YtcfobekkchhbbaaGreat.PR

namespace Go.Proofs.YtcfobekkchhbbaaGreat.KK
open Go.RowKit
set_option linter.unusedVariables false
set_option linter.unusedSimpArgs false
section
variable {P : Program} {md : Region.Mode} {ops : Array Oper} {Q : Exit → Act → World → Prop} {S : World → Prop} {m : Nat}
def Until (P : Program) (md : Region.Mode) (ops : Array Oper) (Q : Exit → Act → World → Prop) (S : World → Prop) (m : Nat) : Nat → Array Bool → Act → World → Prop
 | 0, L, a, w => Region.ready md ops L = [] ∧ Q .normal a w
 | f + 1, L, a, w => (Region.ready md ops L = [] → Q .normal a w) ∧
     ∀ i ∈ Region.ready md ops L, wpOp P ops Q i (fun a' w' => ((L.setIfInBounds i true).getD m true = false → S w') ∧ Until P md ops Q S m f (L.setIfInBounds i true) a' w') a w
theorem Until.any : ∀ (f : Nat) (L : Array Bool) (a : Act) (w : World), Until P md ops Q S m f L a w → wpAny P md ops Q f L a w
 | 0, _, _, _, h => h
 | f + 1, _, _, _, h => ⟨h.1, fun i hi => wpOp_mono (fun a' w' h' => Until.any f _ a' w' h'.2) (h.2 i hi)⟩
def waits (md : Region.Mode) (ops : Array Oper) (m i : Nat) : Bool := match ops[m]? with | some o => o.after.any fun e => Region.binds md e && e.on == i | none => false
theorem LD {i : Nat} (h : waits md ops m i = true) : ∃ o e, ops[m]? = some o ∧ e ∈ o.after ∧ Region.binds md e = true ∧ e.on = i := by
 unfold waits at h
 cases ho : ops[m]? with
 | none => rw [ho] at h; cases h
 | some o =>
   rw [ho] at h; simp only [Array.any_eq_true'] at h; obtain ⟨e, he, hb⟩ := h; simp only [Bool.and_eq_true, beq_iff_eq] at hb; exact ⟨o, e, rfl, he, hb.1, hb.2⟩
theorem Bl {i j : Nat} {L : Array Bool} (hi : i ∈ Region.ready md ops L) (hj : j ∈ Region.ready md ops L) : ∃ o, ops[j]? = some o ∧ ∀ e ∈ o.after, Region.binds md e = true → e.on ≠ i := by
 obtain ⟨_, o, ho, hall⟩ := mem_ready.1 hj; refine ⟨o, ho, fun e he hb heq => ?_⟩
 have h1 := hall e he hb; have h0 := (mem_ready.1 hi).1; rw [heq] at h1
 by_cases hs : i < L.size
 · rw [Array.getD_eq_getD_getElem?, Array.getElem?_eq_getElem hs] at h0 h1
   simp at h0 h1
   rw [h0] at h1
   cases h1
 · rw [Array.getD_eq_getD_getElem?, Array.getElem?_eq_none (by omega)] at h1
   simp at h1
theorem Until.first {i : Nat} {oi : Oper} {v : Value} (hi : ops[i]? = some oi) (hs : Region.noSelect ops = true) (hQ : ∀ c a w, Q (.panic c) (a.put oi.dst v) w → Q (.panic c) a w) (hm : waits md ops m i = true) :
 ∀ (f : Nat) (L : Array Bool) (a : Act) (w : World),
   (∀ j oj, ops[j]? = some oj → j ≠ i → L.getD j true = false → (∀ e ∈ oj.after, Region.binds md e = true → e.on ≠ i) → oi.apart ops oj = true) →
   i ∈ Region.ready md ops L → L.getD m true = false → YieldsIf P ops S oi v a → S w →
   Until P md ops Q S m f (L.setIfInBounds i true) (a.put oi.dst v) w → Until P md ops Q S m (f + 1) L a w := by
 obtain ⟨om, em, hom, hem, hbm, aaX⟩ := LD hm; intro f
 induction f with
 | zero =>
   intro L a w hf hr hu hy hS H; refine ⟨fun h => (by rw [h] at hr; cases hr), fun j hj => ?_⟩
   by_cases hji : j = i
   · subst hji; exact hy.wpOp hi hS ⟨fun _ => hS, H⟩
   · have h := ready_mono hj hji
     rw [H.1] at h
     cases h
 | succ f ih =>
   intro L a w hf hr hu hy hS H; refine ⟨fun h => (by rw [h] at hr; cases hr), fun j hj => ?_⟩
   by_cases hji : j = i
   · subst hji; exact hy.wpOp hi hS ⟨fun _ => hS, H⟩
   · obtain ⟨oj, hoj, hno⟩ := Bl hr hj
     have hjm : j ≠ m := fun e => by
      subst e; rw [hom] at hoj
      injection hoj with hoj
      subst hoj; exact hno em hem hbm aaX
     have him : i ≠ m := fun e => by
      subst e; obtain ⟨o', ho', hn'⟩ := Bl hr hr; rw [hom] at ho'
      injection ho' with ho'
      subst ho'; exact hn' em hem hbm aaX
     have hun := (mem_ready.1 hj).1; have h2 := wpOp_putIf hoj (hf j oj hoj hji hun hno) (fun cs b => Region.noSelect_spec hs i oi cs b hi) (fun cs b => Region.noSelect_spec hs j oj cs b hoj) hQ hy (H.2 j (ready_mono hj hji)); refine wpOp_mono (fun a' w' h3 => ?_) h2
     obtain ⟨hy', hS', H'⟩ := h3
     have hu' : (L.setIfInBounds j true).getD m true = false := by rw [getD_set_ne true hjm]; exact hu
     have hSw : S w' := hS' (by rw [getD_set_ne true hjm, getD_set_ne true him]; exact hu); refine ⟨fun _ => hSw, ih _ a' w' ?_ (ready_mono hr (Ne.symm hji)) hu' hy' hSw ?_⟩
     · intro k ok hk hki hku hkn
       refine hf k ok hk hki ?_ hkn
       by_cases hjk : j = k
       · subst hjk; exact hun
       · rw [getD_set_ne true hjk] at hku; exact hku
     · rw [Array.setIfInBounds_comm _ _ hji]
       exact H'
theorem Until.take {i : Nat} {oi : Oper} {v : Value} {f : Nat} {L : Array Bool} {a : Act} {w : World} (hi : ops[i]? = some oi)
 (hs : Region.noSelect ops = true) (hf : Region.free md ops L i = true) (hr : (Region.ready md ops L).contains i = true) (hm : waits md ops m i = true) (hu : L.getD m true = false)
 (hQ : ∀ c a w, Q (.panic c) (a.put oi.dst v) w → Q (.panic c) a w) (hy : YieldsIf P ops S oi v a) (hS : S w)
 (h : Until P md ops Q S m f (L.setIfInBounds i true) (a.put oi.dst v) w) : Until P md ops Q S m (f + 1) L a w :=
 Until.first hi hs hQ hm f L a w (Region.free_spec hi hf) (by simpa using hr) hu hy hS h
theorem Until.one {i : Nat} {o : Oper} {f : Nat} {L : Array Bool} {a : Act} {w : World} (hr : Region.ready md ops L = [i]) (ho : ops[i]? = some o)
 (h : ∀ K' : Act → World → Prop, Shut (∀ a w, ((L.setIfInBounds i true).getD m true = false → S w) → Until P md ops Q S m f (L.setIfInBounds i true) a w → K' a w) → if Region.wanted o (yielded ops a.tmps) = true then Oper.wp P o a w K' Q else K' (a.put o.dst undef) w) :
 Until P md ops Q S m (f + 1) L a w := by
 refine ⟨fun h0 => (by rw [hr] at h0; cases h0), fun j hj => ?_⟩
 rw [hr] at hj; obtain rfl := List.mem_singleton.1 hj; have h1 := h (fun a' w' => ((L.setIfInBounds j true).getD m true = false → S w') ∧ Until P md ops Q S m f (L.setIfInBounds j true) a' w') (fun a w hS hU => ⟨hS, hU⟩)
 unfold wpOp
 simp only [ho]
 split
 · rename_i hw
   rw [if_pos hw] at h1; exact .inl h1
 · rename_i hw
   rw [if_neg hw] at h1; exact h1
theorem Until.done {L : Array Bool} {a : Act} {w : World} (hr : Region.ready md ops L = []) (h : Q .normal a w) : ∀ f, Until P md ops Q S m f L a w
 | 0 => ⟨hr, h⟩
 | _ + 1 => ⟨fun _ => h, by rw [hr]; simp⟩
theorem yP {id : Nat} {a : Act} {w : World} (S : World → Prop) (m : Nat) (hm : P.follows .mixedOrders = true) (hS : S w.drew) (h : S w.drew → Until P .any ops (NoPanic Q) S m ops.size (Array.replicate ops.size false) a w.drew) : (Code.region id ops true).wp P Q a w :=
 wp_region_noPanic (wp_region_any hm (Until.any _ _ _ _ (h hS)))
end
end Go.Proofs.YtcfobekkchhbbaaGreat.KK

