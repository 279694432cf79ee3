import Derived.Test.YtninmcmajbfccaaY2
import Derived.Test.YtninmcmajbfccaaY6
import Derived.Test.YtninmcmajbfccaaProg
import Derived.Test.YtninmcmajbfccaaY5
import Derived.Test.YtninmcmajbfccaaY1
/- Joined and thinned by a program of this session's own (wip/pack2.py) out of its texts (wip/ of its repo); parts were laid by its own program (wip/print-patch.py over the kit's print) out of the translation; Lean checks all. -/
set_option maxRecDepth 100000
set_option maxHeartbeats 8000000
namespace Go.Proofs.Ytninmcmajbfccaa.PQ
open Go.RowKit Go.Proofs.aH.bK Go.Proofs.aH.dG Go.Proofs.aH.dJ
attribute [local go_sem] jS jQ kT kS ji jh jR jP
set_option linter.unusedVariables false
set_option linter.unusedSimpArgs false
mutual
def bJ.l0 : Nat → Int → Int → Int → List Int → Int → Int → List Int → Option (Int × Int × List Int × Bool × Int)
 | 0, _, _, _, _, _, _, _ => none
 | k + 1, x6, Az, oI, uV, Aw, Au, yR => if x6 < Az then (bJ.l1 k x6 0 Az oI uV Aw Au yR) else (some (Aw, Au, yR, false, 0))
def bJ.l1 : Nat → Int → Int → Int → Int → List Int → Int → Int → List Int → Option (Int × Int × List Int × Bool × Int)
 | 0, _, _, _, _, _, _, _, _ => none
 | k + 1, x6, x7, Az, oI, uV, Aw, Au, yR => if x7 < oI then (if 0 ≤ (wrap64 ((wrap64 (x6 * oI)) + x7)) then (if (wrap64 ((wrap64 (x6 * oI)) + x7)) < (uV.length : Int) then (if 0 ≤ (wrap64 ((wrap64 (x7 * oI)) + x6)) then (if (wrap64 ((wrap64 (x7 * oI)) + x6)) < (uV.length : Int) then ((bP.f k (wrap64 ((rd uV (wrap64 ((wrap64 (x6 * oI)) + x7))) + (rd uV (wrap64 ((wrap64 (x7 * oI)) + x6))))) 1).bind fun GZ => (if (wrap64 ((wrap64 (x6 * oI)) + x7)) < (yR.length : Int) then (bJ.l1 k x6 (wrap64 (x7 + 1)) Az oI uV Aw Au (yR.set ((wrap64 ((wrap64 (x6 * oI)) + x7)) : Int).toNat GZ)) else (none))) else (none)) else (none)) else (none)) else (none)) else (bJ.l0 k (wrap64 (x6 + 1)) Az oI uV Aw Au yR)
end
def bJ.f (k : Nat) (aQ : Int) (a_ : Int) (aY : List Int) : Option (Int × Int × List Int × Bool × Int) := if aQ = a_ then ((dV.f k aQ a_).bind fun Gt => (bJ.l0 k 0 aQ a_ aY Gt.1 Gt.2.1 Gt.2.2)) else (some (0, 0, ([] : List Int), false, 9))
def bJ.T10 : Bool × List (List Nat × List Nat) := (true, [([], []), ([0], [0]), ([], []), ([], []), ([3], [3]), ([2, 4], [2, 4]), ([], []), ([5, 6], [5, 6]), ([], []), ([8], [8]), ([], []), ([], []), ([11], [11]), ([10, 12], [10, 12]), ([], []), ([13, 14], [13, 14]), ([9, 15], [9, 15]), ([16], [16]), ([], []), ([18], [18]), ([], []), ([], []), ([21], [21]), ([20, 22], [20, 22]), ([], []), ([23, 24], [23, 24]), ([19, 25], [19, 25]), ([26], [26]), ([17, 27], [17, 27]), ([28], [28]), ([1, 7, 0, 1, 2, 3, 4, 5, 6, 7, 8, 9, 10, 11, 12, 13, 14, 15, 16, 17, 18, 19, 20, 21, 22, 23, 24, 25, 26, 27, 28, 29], [1, 7]), ([30, 29, 29, 0, 1, 2, 3, 4, 5, 6, 7, 8, 9, 10, 11, 12, 13, 14, 15, 16, 17, 18, 19, 20, 21, 22, 23, 24, 25, 26, 27, 28, 29], [29, 30])])
def bJ.B10 : List Nat := [0, 1, 0, 0, 8, 28, 0, 124, 0, 256, 0, 0, 2048, 7168, 0, 31744, 65280, 130816, 0, 262144, 0, 0, 2097152, 7340032, 0, 32505856, 66846720, 133955584, 268435200, 536870656, 1073741823, 2147483647]
theorem bJ.SK : qy .any (opsOf Try.f43 10) = bJ.T10 := by kernel_rfl
theorem bJ.Ol : pM bJ.T10.2 bJ.B10 = true := by kernel_rfl
theorem bJ.calls (k : Nat) (aQ : Int) (a_ : Int) (cO : Option Addr) (cu : Nat) (aY : List Int) (r1 : Int) (r2 : Int) (r3 : List Int) (r4 : Bool) (r5 : Int) (w : World) (jl : Kd.C (Kd.int .i64) w cO aY.length aY) (jD : aY.length ≤ cu) (h : bJ.f k aQ a_ aY = some (r1, r2, r3, r4, r5)) :
 Calls Try.prog 43 #[.agg #[.int .i64 aQ, .int .i64 a_, .slice cO aY.length cu]] w fun e w' => ∃ wX : Value, e = .returned (.tuple #[.agg #[.int .i64 r1, .int .i64 r2, wX], .bool r4, .int .i64 r5]) ∧ Kd.R (Kd.int .i64) 22 w' w.heap.size (fun _ => True) wX r3 ∧ Below w.heap.size w w' := by
 have yz := Try.underlying26
 have kC := ah.mk jl
 have lM := ah.mk jD
 clear jl jD
 have HB := ah.mk (Below.refl w.heap.size w)
 have H : (if aQ = a_ then ((dV.f k aQ a_).bind fun Gt => (bJ.l0 k 0 aQ a_ aY Gt.1 Gt.2.1 Gt.2.2)) else (some (0, 0, ([] : List Int), false, 9))) = some (r1, r2, r3, r4, r5) := h
 clear h
 by_cases c2 : aQ = a_
 · rw [if_pos c2] at H
   have Oj : (aQ == a_) = true := beq_iff_eq.mpr c2
   have ZC : (aQ != a_) = false := bne_eq_false_iff_eq.mpr c2
   clear c2
   replace H := Option.bind_eq_some_iff.mp H
   obtain ⟨⟨wZ, xZ, SN⟩, xU, H⟩ := H
   replace H : (bJ.l0 k 0 aQ a_ aY wZ xZ SN) = some (r1, r2, r3, r4, r5) := H
   have A3 := ah.mk xU
   clear xU
   have H' := ah.mk H
   clear H
   go_enter Try.func43, Try.ntmps43
   go_wp2_with (first | ((with_reducible refine dY (N := 1) rfl ?_); refine dH ?hg (N := 1) ?hd (cs := #[.int .i64 aQ, .int .i64 a_, .slice cO aY.length cu]) (t := 26) ?hr ?_; (case hd => rfl); (case hg => rfl); (case hr => first | (go_simp; done) | (go_simp; rfl)); intro je hg w4 hbox hb; have bT := ah.mk (aI (by repeat (first | (with_reducible first | exact HB.out | apply au | apply af | apply ak) | exact HB.out)) hb); have dD := ah.mk (hbox); have dQ := ah.mk ((by rw [hg]; exact (aW (by repeat (first | (with_reducible first | exact HB.out | apply au | apply af | apply ak) | exact HB.out))) : w.heap.size ≤ je)); have eH := ah.mk ((by rw [hg]; exact (aW (by repeat (first | (with_reducible first | exact HB.out | apply au | apply af | apply ak) | exact HB.out))) : w.heap.size ≤ je)); clear HB; have HB := bT; have fV := dD; have ac7 := dQ; have qW := eH; clear bT dD dQ eH; clear hb hbox hg) | ((with_reducible refine dY (N := 2) rfl ?_); refine dH ?hg (N := 2) ?hd (cs := #[.int .i64 0, .int .i64 0, .slice none 0 0]) (t := 26) ?hr ?_; (case hd => rfl); (case hg => rfl); (case hr => first | (go_simp; done) | (go_simp; rfl)); intro lS hg w5 hbox hb; have bT := ah.mk (bg (g := je) (o := .cells #[.int .i64 aQ, .int .i64 a_, .slice cO aY.length cu] 26 (0, 0)) (by (with_reducible repeat (first | refine ay ?_ _ | refine aC ?_ | refine az ?_ _)); exact fV.out) hb); have dD := ah.mk (aI (by repeat (first | (with_reducible first | exact HB.out | apply au | apply af | apply ak | refine aG ?_ qW.out) | exact HB.out)) hb); have dQ := ah.mk (hbox); have eH := ah.mk ((by rw [hg]; exact (aW (by repeat (first | (with_reducible first | exact HB.out | apply au | apply af | apply ak | refine aG ?_ qW.out) | exact HB.out))) : w.heap.size ≤ lS)); have iw := ah.mk ((by rw [hg]; exact (aW (by repeat (first | (with_reducible first | exact HB.out | apply au | apply af | apply ak | refine aG ?_ qW.out) | exact HB.out))) : w.heap.size ≤ lS)); have iQ := ah.mk ((by rw [hg]; exact Nat.ne_of_lt (dP (g := je) (o := .cells #[.int .i64 aQ, .int .i64 a_, .slice cO aY.length cu] 26 (0, 0)) (by (with_reducible repeat (first | refine ay ?_ _ | refine aC ?_ | refine az ?_ _)); exact fV.out)) : je ≠ lS)); have jk := ah.mk ((by rw [hg]; exact Nat.ne_of_gt (dP (g := je) (o := .cells #[.int .i64 aQ, .int .i64 a_, .slice cO aY.length cu] 26 (0, 0)) (by (with_reducible repeat (first | refine ay ?_ _ | refine aC ?_ | refine az ?_ _)); exact fV.out)) : lS ≠ je)); clear fV; clear HB; have fV := bT; have HB := dD; have kD := dQ; have ac6 := eH; have xQ := iw; have rG := iQ; have rF := jk; clear bT dD dQ eH iw iQ jk; clear hb hbox hg; have anT := rG.out; have anR := rF.out; have FY : w5.cell? ⟨je, 0, none⟩ = some (.int .i64 aQ) := (aj fV.out 0).trans rfl; have FW : w5.cell? ⟨je, 1, none⟩ = some (.int .i64 a_) := (aj fV.out 1).trans rfl; have FV : w5.cell? ⟨je, 2, none⟩ = some (.slice cO aY.length cu) := (aj fV.out 2).trans rfl; have FI := aA fV.out 0; have FD := aA fV.out 1; have FC := aA fV.out 2) | ((with_reducible refine aV (f := 16) rfl ?_); refine cZ (some 18) rfl rfl Try.func16 (by kernel_rfl) rfl #[.int .i64 aQ, .int .i64 a_] rfl (by (try simp only [List.map_toArray, List.map_cons, List.map_nil]); first | done | rfl | (simp only [List.length_drop, List.length_take]; rfl)) ?_; (with_reducible refine (dV.calls k aQ a_ wZ xZ SN _ A3.out).mono ?_); rintro e w8 ⟨am6, rfl, ho0, hb⟩; refine ⟨_, rfl, ?_⟩; have bT := ah.mk (Kd.jG ho0 (aW (by repeat (first | (with_reducible first | exact HB.out | apply au | apply af | apply ak | refine aG ?_ qW.out | refine aG ?_ xQ.out) | exact HB.out)))); have dD := ah.mk (bg (g := je) (o := .cells #[.int .i64 aQ, .int .i64 a_, .slice cO aY.length cu] 26 (0, 0)) (by (with_reducible repeat (first | refine ay ?_ _ | refine aC ?_ | refine az ?_ _)); exact fV.out) hb); have dQ := ah.mk (bg (g := lS) (o := .cells #[.int .i64 0, .int .i64 0, .slice none 0 0] 26 (0, 0)) (by (with_reducible repeat (first | refine ay ?_ _ | refine aC ?_ | refine az ?_ _)); exact kD.out) hb); have eH := ah.mk (aI (by repeat (first | (with_reducible first | exact HB.out | apply au | apply af | apply ak | refine aG ?_ qW.out | refine aG ?_ xQ.out) | exact HB.out)) hb); clear fV; clear kD; clear HB; have L8 := bT; have fV := dD; have kD := dQ; have HB := eH; clear bT dD dQ eH; (try clear hb); (try clear hb2); (try clear hk); (try clear hi); (try clear ho0)) | ((with_reducible refine dY (N := 5) rfl ?_); refine dH ?hg (N := 5) ?hd (cs := #[.int .i64 0, .int .i64 0, .slice none 0 0]) (t := 26) ?hr ?_; (case hd => rfl); (case hg => rfl); (case hr => first | (go_simp; done) | (go_simp; rfl)); intro qg hg w9 hbox hb; have bT := ah.mk (Kd.iO (by (with_reducible repeat (first | apply Kd.bZ | apply Kd.bY | apply Kd.dA)); exact L8.out) hb); have dD := ah.mk (bg (g := je) (o := .cells #[.int .i64 aQ, .int .i64 a_, .slice cO aY.length cu] 26 (0, 0)) (by (with_reducible repeat (first | refine ay ?_ _ | refine aC ?_ | refine az ?_ _)); exact fV.out) hb); have dQ := ah.mk (bg (g := lS) (o := .cells #[.int .i64 0, .int .i64 0, .slice none 0 0] 26 (0, 0)) (by (with_reducible repeat (first | refine ay ?_ _ | refine aC ?_ | refine az ?_ _)); exact kD.out) hb); have eH := ah.mk (aI (by repeat (first | (with_reducible first | exact HB.out | apply au | apply af | apply ak | refine aG ?_ qW.out | refine aG ?_ xQ.out) | exact HB.out)) hb); have iw := ah.mk (hbox); have iQ := ah.mk ((by rw [hg]; exact (aW (by repeat (first | (with_reducible first | exact HB.out | apply au | apply af | apply ak | refine aG ?_ qW.out | refine aG ?_ xQ.out) | exact HB.out))) : w.heap.size ≤ qg)); have jk := ah.mk ((by rw [hg]; exact (aW (by repeat (first | (with_reducible first | exact HB.out | apply au | apply af | apply ak | refine aG ?_ qW.out | refine aG ?_ xQ.out) | exact HB.out))) : w.heap.size ≤ qg)); have mQ := ah.mk ((by rw [hg]; exact Nat.ne_of_lt (dP (g := je) (o := .cells #[.int .i64 aQ, .int .i64 a_, .slice cO aY.length cu] 26 (0, 0)) (by (with_reducible repeat (first | refine ay ?_ _ | refine aC ?_ | refine az ?_ _)); exact fV.out)) : je ≠ qg)); have qA := ah.mk ((by rw [hg]; exact Nat.ne_of_gt (dP (g := je) (o := .cells #[.int .i64 aQ, .int .i64 a_, .slice cO aY.length cu] 26 (0, 0)) (by (with_reducible repeat (first | refine ay ?_ _ | refine aC ?_ | refine az ?_ _)); exact fV.out)) : qg ≠ je)); have uD := ah.mk ((by rw [hg]; exact Nat.ne_of_lt (dP (g := lS) (o := .cells #[.int .i64 0, .int .i64 0, .slice none 0 0] 26 (0, 0)) (by (with_reducible repeat (first | refine ay ?_ _ | refine aC ?_ | refine az ?_ _)); exact kD.out)) : lS ≠ qg)); have kP := ah.mk ((by rw [hg]; exact Nat.ne_of_gt (dP (g := lS) (o := .cells #[.int .i64 0, .int .i64 0, .slice none 0 0] 26 (0, 0)) (by (with_reducible repeat (first | refine ay ?_ _ | refine aC ?_ | refine az ?_ _)); exact kD.out)) : qg ≠ lS)); clear L8; clear fV; clear kD; clear HB; have L8 := bT; have fV := dD; have kD := dQ; have HB := eH; have kZ := iw; have aml := iQ; have Mc := jk; have qh := mQ; have wQ := qA; have wR := uD; have Ik := kP; clear bT dD dQ eH iw iQ jk mQ qA uD kP; clear hb hbox hg; have Pj := wQ.out; have Pg := qh.out; have Ph := Ik.out; have Pe := wR.out; have nN : w9.cell? ⟨qg, 0, none⟩ = some (.int .i64 0) := (aj kZ.out 0).trans rfl; have nM : w9.cell? ⟨qg, 1, none⟩ = some (.int .i64 0) := (aj kZ.out 1).trans rfl; have nK : w9.cell? ⟨qg, 2, none⟩ = some (.slice none 0 0) := (aj kZ.out 2).trans rfl; have nJ := aA kZ.out 0; have nI := aA kZ.out 1; have nH := aA kZ.out 2; obtain ⟨mP, mD, Zp⟩ := Kd.iq L8.out; subst Zp))
   go_loopg [6] k (fun kq v6 w' => ∃ (lC : Int) (uw : List Int) (qx : Value), v6 = .int .i64 lC ∧ ah (bJ.l0 kq lC aQ a_ aY wZ xZ uw = some (r1, r2, r3, r4, r5)) ∧ ah (kq ≤ k) ∧ ah (Kd.R (Kd.int .i64) 22 w' w.heap.size (fun _ => True) qx uw) ∧ ah (w'.heap[je]? = some (.cells #[.int .i64 aQ, .int .i64 a_, (.slice cO aY.length cu)] 26 (0, 0))) ∧ ah (w'.heap[lS]? = some (.cells #[.int .i64 0, .int .i64 0, (.slice none 0 0)] 26 (0, 0))) ∧ ah (w'.heap[qg]? = some (.cells #[.int .i64 wZ, .int .i64 xZ, qx] 26 (0, 0))) ∧ ah (Below w.heap.size w w'))
   case atStart => exact ⟨(0), (SN), (.slice mP SN.length mD), (by first | rfl | (simp; done) | (simp [*]; done)), H', ⟨Nat.le_refl _⟩, ⟨by (with_reducible repeat (first | apply Kd.bZ | apply Kd.bY | apply Kd.dA)); exact Kd.fQ (Kd.dM (p := ⟨qg, 2, none⟩) (Kd.dM (p := ⟨qg, 1, none⟩) (Kd.dM (p := ⟨qg, 0, none⟩) (Kd.iM L8.out kZ.out (by decide)) (fun _ hk => hk.2) (.int .i64 wZ)) (fun _ hk => hk.2) (.int .i64 xZ)) (fun _ hk => hk.2) (.slice mP SN.length mD)) (fun _ hk => trivial)⟩, ⟨by (with_reducible repeat (first | refine ay ?_ _ | refine aC ?_ | refine az ?_ _)); refine dL ?_ qh.out _; (with_reducible repeat (first | refine ay ?_ _ | refine aC ?_ | refine az ?_ _)); refine dL ?_ qh.out _; (with_reducible repeat (first | refine ay ?_ _ | refine aC ?_ | refine az ?_ _)); refine dL ?_ qh.out _; (with_reducible repeat (first | refine ay ?_ _ | refine aC ?_ | refine az ?_ _)); exact fV.out⟩, ⟨by (with_reducible repeat (first | refine ay ?_ _ | refine aC ?_ | refine az ?_ _)); refine dL ?_ wR.out _; (with_reducible repeat (first | refine ay ?_ _ | refine aC ?_ | refine az ?_ _)); refine dL ?_ wR.out _; (with_reducible repeat (first | refine ay ?_ _ | refine aC ?_ | refine az ?_ _)); refine dL ?_ wR.out _; (with_reducible repeat (first | refine ay ?_ _ | refine aC ?_ | refine az ?_ _)); exact kD.out⟩, ⟨by (with_reducible repeat (first | refine ay ?_ _ | refine aC ?_ | refine az ?_ _)); refine bQ (cs := #[.int .i64 wZ, .int .i64 xZ, .slice none 0 0]) ?_ 2 _ rfl; (with_reducible repeat (first | refine ay ?_ _ | refine aC ?_ | refine az ?_ _)); refine bQ (cs := #[.int .i64 wZ, .int .i64 0, .slice none 0 0]) ?_ 1 _ rfl; (with_reducible repeat (first | refine ay ?_ _ | refine aC ?_ | refine az ?_ _)); refine bQ (cs := #[.int .i64 0, .int .i64 0, .slice none 0 0]) ?_ 0 _ rfl; (with_reducible repeat (first | refine ay ?_ _ | refine aC ?_ | refine az ?_ _)); exact kZ.out⟩, ⟨by repeat (first | (with_reducible first | exact HB.out | apply au | apply af | apply ak | refine aG ?_ qW.out | refine aG ?_ xQ.out | refine aG ?_ Mc.out) | exact HB.out)⟩⟩
   case round =>
    clear H'
    try clear c1
    try clear c2
    try clear Oj
    try clear ZC
    try clear p2
    try clear c4
    try clear c6
    try clear c10
    try clear c11
    try clear nN
    try clear nM
    try clear nK
    try clear FY
    try clear FW
    try clear FV
    try clear nJ
    try clear nI
    try clear nH
    try clear FI
    try clear FD
    try clear FC
    obtain ⟨lC, uw, qx, rfl, HA, Aq, jX, fV, kD, kZ, HB⟩ := hrel
    cases gk with
    | zero => exact absurd HA.out (by simp [bJ.l0])
    | succ k1 =>
      have H := HA.out
      clear HA
      simp only [bJ.l0] at H
      by_cases c14 : lC < aQ
      · rw [if_pos c14] at H
        have oQ : decide (lC < aQ) = true := decide_eq_true c14
        clear c14
        have H' := ah.mk H
        clear H
        have akJ := rG.out
        have aks := rF.out
        have akI := qh.out
        have akr := wQ.out
        have Bo : wr.cell? ⟨je, 0, none⟩ = some (.int .i64 aQ) := (aj fV.out 0).trans rfl
        have Bl : wr.cell? ⟨je, 1, none⟩ = some (.int .i64 a_) := (aj fV.out 1).trans rfl
        have Bj : wr.cell? ⟨je, 2, none⟩ = some (.slice cO aY.length cu) := (aj fV.out 2).trans rfl
        have Bi := aA fV.out 0
        have Bh := aA fV.out 1
        have Bg := aA fV.out 2
        go_wp2
        go_loopg [7] k1 (fun kq v7 w' => ∃ (xW : Int) (jU : List Int) (qx : Value), v7 = .int .i64 xW ∧ ah (bJ.l1 kq lC xW aQ a_ aY wZ xZ jU = some (r1, r2, r3, r4, r5)) ∧ ah (kq ≤ k1) ∧ ah (Kd.R (Kd.int .i64) 22 w' w.heap.size (fun _ => True) qx jU) ∧ ah (w'.heap[je]? = some (.cells #[.int .i64 aQ, .int .i64 a_, (.slice cO aY.length cu)] 26 (0, 0))) ∧ ah (w'.heap[lS]? = some (.cells #[.int .i64 0, .int .i64 0, (.slice none 0 0)] 26 (0, 0))) ∧ ah (w'.heap[qg]? = some (.cells #[.int .i64 wZ, .int .i64 xZ, qx] 26 (0, 0))) ∧ ah (Below w.heap.size w w'))
        case atStart => exact ⟨(0), (uw), (qx), (by first | rfl | (simp; done) | (simp [*]; done)), H', ⟨Nat.le_refl _⟩, ⟨by (with_reducible repeat (first | apply Kd.bZ | apply Kd.bY | apply Kd.dA)); exact jX.out⟩, ⟨by (with_reducible repeat (first | refine ay ?_ _ | refine aC ?_ | refine az ?_ _)); exact fV.out⟩, ⟨by (with_reducible repeat (first | refine ay ?_ _ | refine aC ?_ | refine az ?_ _)); exact kD.out⟩, ⟨by (with_reducible repeat (first | refine ay ?_ _ | refine aC ?_ | refine az ?_ _)); exact kZ.out⟩, ⟨by repeat (first | (with_reducible first | exact HB.out | apply au | apply af | apply ak | refine aG ?_ qW.out | refine aG ?_ xQ.out | refine aG ?_ Mc.out) | exact HB.out)⟩⟩
        case round =>
         clear H'
         try clear c1
         try clear c2
         try clear Oj
         try clear ZC
         try clear p2
         try clear c4
         try clear c6
         try clear c10
         try clear c11
         try clear c14
         try clear oQ
         try clear c15
         try clear c16
         try clear nN
         try clear nM
         try clear nK
         try clear Bo
         try clear Bl
         try clear Bj
         try clear FY
         try clear FW
         try clear FV
         try clear nJ
         try clear nI
         try clear nH
         try clear Bi
         try clear Bh
         try clear Bg
         try clear FI
         try clear FD
         try clear FC
         try clear p2
         obtain ⟨xW, jU, qx, rfl, HA, yN, jX, fV, kD, kZ, HB⟩ := hrel
         cases gk with
         | zero => exact absurd HA.out (by simp [bJ.l1])
         | succ k2 =>
           have H := HA.out
           clear HA
           simp only [bJ.l1] at H
           by_cases c18 : xW < a_
           · rw [if_pos c18] at H
             have BI : decide (xW < a_) = true := decide_eq_true c18
             clear c18
             obtain ⟨qB, Pq⟩ : ∃ j_ : Int, (wrap64 ((wrap64 (lC * a_)) + xW)) = j_ := ⟨_, rfl⟩
             replace H : (if 0 ≤ (qB) then (if (qB) < (aY.length : Int) then (if 0 ≤ (wrap64 ((wrap64 (xW * a_)) + lC)) then (if (wrap64 ((wrap64 (xW * a_)) + lC)) < (aY.length : Int) then ((bP.f k2 (wrap64 ((rd aY (qB)) + (rd aY (wrap64 ((wrap64 (xW * a_)) + lC))))) 1).bind fun GZ => (if (qB) < (jU.length : Int) then (bJ.l1 k2 lC (wrap64 (xW + 1)) aQ a_ aY wZ xZ (jU.set ((qB) : Int).toNat GZ)) else (none))) else (none)) else (none)) else (none)) else (none)) = some (r1, r2, r3, r4, r5) := by first | (rw [Pq] at H; exact H) | (simp only [Pq] at H ⊢; exact H)
             have ail : (IntKind.i64.wrap ((wrap64 (lC * a_)) + xW)) = qB := (aJ _).trans Pq
             by_cases c20 : 0 ≤ (qB)
             · rw [if_pos c20] at H
               have Qn : decide (0 ≤ (qB)) = true := decide_eq_true c20
               clear c20
               by_cases c21 : (qB) < (aY.length : Int)
               · rw [if_pos c21] at H
                 have vN : decide ((qB) < (aY.length : Int)) = true := decide_eq_true c21
                 clear c21
                 obtain ⟨Af, Po⟩ : ∃ j_ : Int, (wrap64 ((wrap64 (xW * a_)) + lC)) = j_ := ⟨_, rfl⟩
                 replace H : (if 0 ≤ (Af) then (if (Af) < (aY.length : Int) then ((bP.f k2 (wrap64 ((rd aY (qB)) + (rd aY (Af)))) 1).bind fun GZ => (if (qB) < (jU.length : Int) then (bJ.l1 k2 lC (wrap64 (xW + 1)) aQ a_ aY wZ xZ (jU.set ((qB) : Int).toNat GZ)) else (none))) else (none)) else (none)) = some (r1, r2, r3, r4, r5) := by first | (rw [Po] at H; exact H) | (simp only [Po] at H ⊢; exact H)
                 have aij : (IntKind.i64.wrap ((wrap64 (xW * a_)) + lC)) = Af := (aJ _).trans Po
                 by_cases c23 : 0 ≤ (Af)
                 · rw [if_pos c23] at H
                   have DW : decide (0 ≤ (Af)) = true := decide_eq_true c23
                   clear c23
                   by_cases c24 : (Af) < (aY.length : Int)
                   · rw [if_pos c24] at H
                     have LU : decide ((Af) < (aY.length : Int)) = true := decide_eq_true c24
                     clear c24
                     replace H := Option.bind_eq_some_iff.mp H
                     obtain ⟨GZ, adv, H⟩ := H
                     replace H : (if (qB) < (jU.length : Int) then (bJ.l1 k2 lC (wrap64 (xW + 1)) aQ a_ aY wZ xZ (jU.set ((qB) : Int).toNat GZ)) else (none)) = some (r1, r2, r3, r4, r5) := H
                     have A25 := ah.mk adv
                     clear adv
                     by_cases JP : (qB) < (jU.length : Int)
                     · rw [if_pos JP] at H
                       have BH : decide ((qB) < (jU.length : Int)) = true := decide_eq_true JP
                       clear JP
                       obtain ⟨aax, KW⟩ : ∃ y_ : List Int, y_ = (jU.set ((qB) : Int).toNat GZ) := ⟨_, rfl⟩
                       replace H : (bJ.l1 k2 lC (wrap64 (xW + 1)) aQ a_ aY wZ xZ aax) = some (r1, r2, r3, r4, r5) := by first | (rw [KW]; with_reducible exact H) | (have Dt := (Option.bind_some _ _).symm.trans H; rw [KW]; with_reducible exact Dt) | (have Dt := (Option.bind_some _ _).symm.trans H; with_reducible exact Dt) | with_reducible exact H | (rw [KW]; exact H) | exact H
                       have acA := ah.mk KW
                       clear KW
                       have H' := ah.mk H
                       clear H
                       have Yg := rG.out
                       have Yd := rF.out
                       have aa4 := qh.out
                       have aaW := wQ.out
                       have ag_ : wr.cell? ⟨je, 0, none⟩ = some (.int .i64 aQ) := (aj fV.out 0).trans rfl
                       have ag9 : wr.cell? ⟨je, 1, none⟩ = some (.int .i64 a_) := (aj fV.out 1).trans rfl
                       have ag8 : wr.cell? ⟨je, 2, none⟩ = some (.slice cO aY.length cu) := (aj fV.out 2).trans rfl
                       have afS := aA fV.out 0
                       have afR := aA fV.out 1
                       have afQ := aA fV.out 2
                       try go_wp2
                       have bT := ah.mk (Kd.dA jX.out)
                       have dD := ah.mk (aC fV.out)
                       have dQ := ah.mk (aC kD.out)
                       have eH := ah.mk (aC kZ.out)
                       have iw := ah.mk (ak HB.out)
                       clear jX
                       clear fV
                       clear kD
                       clear kZ
                       clear HB
                       have jX := bT
                       have fV := dD
                       have kD := dQ
                       have kZ := eH
                       have HB := iw
                       clear bT dD dQ eH iw
                       have Y1 : 0 ≤ ((qB) : Int) := of_decide_eq_true (by first | (with_reducible assumption) | assumption)
                       have YW : (qB) < (aY.length : Int) := of_decide_eq_true (by first | (with_reducible assumption) | assumption)
                       obtain ⟨Qr, e260, Bd⟩ := Kd.jv kC.out (qB) Y1 YW
                       have Et := Bd
                       cases e260
                       replace Bd := (HB.out.cell (World.block_lt_of_cell? w _ Bd)).trans Bd
                       replace Y1 := eq_true Y1
                       replace YW := eq_true YW
                       have Y0 : 0 ≤ ((Af) : Int) := of_decide_eq_true (by first | (with_reducible assumption) | assumption)
                       have YV : (Af) < (aY.length : Int) := of_decide_eq_true (by first | (with_reducible assumption) | assumption)
                       obtain ⟨abT, e261, Bc⟩ := Kd.jv kC.out (Af) Y0 YV
                       have Es := Bc
                       obtain rfl : Qr = abT := (by injection e261)
                       replace Bc := (HB.out.cell (World.block_lt_of_cell? w _ Bc)).trans Bc
                       replace Y0 := eq_true Y0
                       replace YV := eq_true YV
                       refine oV (n := 32) (S := fun w' => w'.cell? ⟨qg, 0, none⟩ = some (.int .i64 wZ) ∧ w'.cell? ⟨qg, 1, none⟩ = some (.int .i64 xZ) ∧ w'.cell? ⟨qg, 2, none⟩ = some (qx) ∧ w'.cell? ⟨je, 0, none⟩ = some (.int .i64 aQ) ∧ w'.cell? ⟨je, 1, none⟩ = some (.int .i64 a_) ∧ w'.cell? ⟨je, 2, none⟩ = some (.slice (some Qr) aY.length cu) ∧ w'.cell? (Qr.add ((qB)).toNat) = some (.int .i64 (rd aY (qB))) ∧ w'.cell? (Qr.add ((Af)).toNat) = some (.int .i64 (rd aY (Af)))) (ds := [31]) #[false, false, false, false, false, false, false, false, false, false, false, false, false, false, false, false, false, false, false, false, false, false, false, false, false, false, false, false, false, false, false, false] (by kernel_rfl) rfl rfl ⟨(aj kZ.out 0).trans rfl, (aj kZ.out 1).trans rfl, (aj kZ.out 2).trans rfl, (aj fV.out 0).trans rfl, (aj fV.out 1).trans rfl, (aj fV.out 2).trans rfl, ((HB.out.cell (World.block_lt_of_cell? w _ Et)).trans Et), ((HB.out.cell (World.block_lt_of_cell? w _ Es)).trans Es)⟩ (fun hHeld => ?_); refine jJ bJ.SK bJ.Ol (fun dF pI => ?_)
                       generalize wr.drew = w31 at jX fV kD kZ HB Bd Bc hHeld ⊢
                       refine bf (i := 0) (N := some 31) (v := ?_) (a' := ?_) #[true, false, false, false, false, false, false, false, false, false, false, false, false, false, false, false, false, false, false, false, false, false, false, false, false, false, false, false, false, false, false, false] rfl rfl (aN dF.out (by kernel_rfl)) (fun _ _ _ h => h) (Or.inl ⟨by rfl, ?_⟩) ?_ ?_
                       rotate_left
                       · intro w'
                         go_simp
                         with_reducible rfl
                       rotate_left
                       · simp only [Act.put, List.setIfInBounds_toArray, List.set_cons_zero, List.set_cons_succ, aJ, aK]
                         rfl
                       refine bf (i := 2) (N := some 33) (v := ?_) (a' := ?_) #[true, false, true, false, false, false, false, false, false, false, false, false, false, false, false, false, false, false, false, false, false, false, false, false, false, false, false, false, false, false, false, false] rfl rfl (aN dF.out (by kernel_rfl)) (fun _ _ _ h => h) (Or.inl ⟨by rfl, ?_⟩) ?_ ?_
                       rotate_left
                       · intro w'
                         go_simp
                         with_reducible rfl
                       rotate_left
                       · simp only [Act.put, List.setIfInBounds_toArray, List.set_cons_zero, List.set_cons_succ, aJ, aK]
                         rfl
                       refine bf (i := 3) (N := some 34) (v := ?_) (a' := ?_) #[true, false, true, true, false, false, false, false, false, false, false, false, false, false, false, false, false, false, false, false, false, false, false, false, false, false, false, false, false, false, false, false] rfl rfl (aN dF.out (by kernel_rfl)) (fun _ _ _ h => h) (Or.inl ⟨by rfl, ?_⟩) ?_ ?_
                       rotate_left
                       · intro w'
                         go_simp
                         with_reducible rfl
                       rotate_left
                       · simp only [Act.put, List.setIfInBounds_toArray, List.set_cons_zero, List.set_cons_succ, aJ, aK]
                         rfl
                       refine bf (i := 6) (N := some 37) (v := ?_) (a' := ?_) #[true, false, true, true, false, false, true, false, false, false, false, false, false, false, false, false, false, false, false, false, false, false, false, false, false, false, false, false, false, false, false, false] rfl rfl (aN dF.out (by kernel_rfl)) (fun _ _ _ h => h) (Or.inl ⟨by rfl, ?_⟩) ?_ ?_
                       rotate_left
                       · intro w'
                         go_simp
                         with_reducible rfl
                       rotate_left
                       · simp only [Act.put, List.setIfInBounds_toArray, List.set_cons_zero, List.set_cons_succ, aJ, aK]
                         rfl
                       refine bf (i := 8) (N := some 39) (v := ?_) (a' := ?_) #[true, false, true, true, false, false, true, false, true, false, false, false, false, false, false, false, false, false, false, false, false, false, false, false, false, false, false, false, false, false, false, false] rfl rfl (aN dF.out (by kernel_rfl)) (fun _ _ _ h => h) (Or.inl ⟨by rfl, ?_⟩) ?_ ?_
                       rotate_left
                       · intro w'
                         go_simp
                         with_reducible rfl
                       rotate_left
                       · simp only [Act.put, List.setIfInBounds_toArray, List.set_cons_zero, List.set_cons_succ, aJ, aK]
                         rfl
                       refine bf (i := 10) (N := some 41) (v := ?_) (a' := ?_) #[true, false, true, true, false, false, true, false, true, false, true, false, false, false, false, false, false, false, false, false, false, false, false, false, false, false, false, false, false, false, false, false] rfl rfl (aN dF.out (by kernel_rfl)) (fun _ _ _ h => h) (Or.inl ⟨by rfl, ?_⟩) ?_ ?_
                       rotate_left
                       · intro w'
                         go_simp
                         with_reducible rfl
                       rotate_left
                       · simp only [Act.put, List.setIfInBounds_toArray, List.set_cons_zero, List.set_cons_succ, aJ, aK]
                         rfl
                       refine bf (i := 11) (N := some 42) (v := ?_) (a' := ?_) #[true, false, true, true, false, false, true, false, true, false, true, true, false, false, false, false, false, false, false, false, false, false, false, false, false, false, false, false, false, false, false, false] rfl rfl (aN dF.out (by kernel_rfl)) (fun _ _ _ h => h) (Or.inl ⟨by rfl, ?_⟩) ?_ ?_
                       rotate_left
                       · intro w'
                         go_simp
                         with_reducible rfl
                       rotate_left
                       · simp only [Act.put, List.setIfInBounds_toArray, List.set_cons_zero, List.set_cons_succ, aJ, aK]
                         rfl
                       refine bf (i := 14) (N := some 45) (v := ?_) (a' := ?_) #[true, false, true, true, false, false, true, false, true, false, true, true, false, false, true, false, false, false, false, false, false, false, false, false, false, false, false, false, false, false, false, false] rfl rfl (aN dF.out (by kernel_rfl)) (fun _ _ _ h => h) (Or.inl ⟨by rfl, ?_⟩) ?_ ?_
                       rotate_left
                       · intro w'
                         go_simp
                         with_reducible rfl
                       rotate_left
                       · simp only [Act.put, List.setIfInBounds_toArray, List.set_cons_zero, List.set_cons_succ, aJ, aK]
                         rfl
                       refine bf (i := 18) (N := some 49) (v := ?_) (a' := ?_) #[true, false, true, true, false, false, true, false, true, false, true, true, false, false, true, false, false, false, true, false, false, false, false, false, false, false, false, false, false, false, false, false] rfl rfl (aN dF.out (by kernel_rfl)) (fun _ _ _ h => h) (Or.inl ⟨by rfl, ?_⟩) ?_ ?_
                       rotate_left
                       · intro w'
                         go_simp
                         with_reducible rfl
                       rotate_left
                       · simp only [Act.put, List.setIfInBounds_toArray, List.set_cons_zero, List.set_cons_succ, aJ, aK]
                         rfl
                       refine bf (i := 20) (N := some 51) (v := ?_) (a' := ?_) #[true, false, true, true, false, false, true, false, true, false, true, true, false, false, true, false, false, false, true, false, true, false, false, false, false, false, false, false, false, false, false, false] rfl rfl (aN dF.out (by kernel_rfl)) (fun _ _ _ h => h) (Or.inl ⟨by rfl, ?_⟩) ?_ ?_
                       rotate_left
                       · intro w'
                         go_simp
                         with_reducible rfl
                       rotate_left
                       · simp only [Act.put, List.setIfInBounds_toArray, List.set_cons_zero, List.set_cons_succ, aJ, aK]
                         rfl
                       refine bf (i := 21) (N := some 52) (v := ?_) (a' := ?_) #[true, false, true, true, false, false, true, false, true, false, true, true, false, false, true, false, false, false, true, false, true, true, false, false, false, false, false, false, false, false, false, false] rfl rfl (aN dF.out (by kernel_rfl)) (fun _ _ _ h => h) (Or.inl ⟨by rfl, ?_⟩) ?_ ?_
                       rotate_left
                       · intro w'
                         go_simp
                         with_reducible rfl
                       rotate_left
                       · simp only [Act.put, List.setIfInBounds_toArray, List.set_cons_zero, List.set_cons_succ, aJ, aK]
                         rfl
                       refine bf (i := 24) (N := some 55) (v := ?_) (a' := ?_) #[true, false, true, true, false, false, true, false, true, false, true, true, false, false, true, false, false, false, true, false, true, true, false, false, true, false, false, false, false, false, false, false] rfl rfl (aN dF.out (by kernel_rfl)) (fun _ _ _ h => h) (Or.inl ⟨by rfl, ?_⟩) ?_ ?_
                       rotate_left
                       · intro w'
                         go_simp
                         with_reducible rfl
                       rotate_left
                       · simp only [Act.put, List.setIfInBounds_toArray, List.set_cons_zero, List.set_cons_succ, aJ, aK]
                         rfl
                       refine iP (i := 1) (N := some 32) (v := ?_) (a' := ?_) #[true, true, true, true, false, false, true, false, true, false, true, true, false, false, true, false, false, false, true, false, true, true, false, false, true, false, false, false, false, false, false, false] rfl rfl (eF dF.out pI.out (by kernel_rfl)) (fun _ _ _ h => h) (Or.inl ⟨by rfl, ?_⟩) hHeld ?_ ?_
                       rotate_left
                       · rintro w' ⟨s0, s1, s2, s3, s4, s5, s6, s7⟩
                         go_simp
                         with_reducible rfl
                       rotate_left
                       · simp only [Act.put, List.setIfInBounds_toArray, List.set_cons_zero, List.set_cons_succ, aJ, aK]
                         rfl
                       refine iP (i := 4) (N := some 35) (v := ?_) (a' := ?_) #[true, true, true, true, true, false, true, false, true, false, true, true, false, false, true, false, false, false, true, false, true, true, false, false, true, false, false, false, false, false, false, false] rfl rfl (eF dF.out pI.out (by kernel_rfl)) (fun _ _ _ h => h) (Or.inl ⟨by rfl, ?_⟩) hHeld ?_ ?_
                       rotate_left
                       · rintro w' ⟨s0, s1, s2, s3, s4, s5, s6, s7⟩
                         go_simp
                         with_reducible rfl
                       rotate_left
                       · simp only [Act.put, List.setIfInBounds_toArray, List.set_cons_zero, List.set_cons_succ, aJ, aK]
                         rfl
                       refine bf (i := 5) (N := some 36) (v := ?_) (a' := ?_) #[true, true, true, true, true, true, true, false, true, false, true, true, false, false, true, false, false, false, true, false, true, true, false, false, true, false, false, false, false, false, false, false] rfl rfl (aN dF.out (by kernel_rfl)) (fun _ _ _ h => h) (Or.inl ⟨by rfl, ?_⟩) ?_ ?_
                       rotate_left
                       · intro w'
                         go_simp
                         with_reducible rfl
                       rotate_left
                       · simp only [Act.put, List.setIfInBounds_toArray, List.set_cons_zero, List.set_cons_succ, aJ, aK]
                         rfl
                       refine bf (i := 7) (N := some 38) (v := ?_) (a' := ?_) #[true, true, true, true, true, true, true, true, true, false, true, true, false, false, true, false, false, false, true, false, true, true, false, false, true, false, false, false, false, false, false, false] rfl rfl (aN dF.out (by kernel_rfl)) (fun _ _ _ h => h) (Or.inl ⟨by rfl, ?_⟩) ?_ ?_
                       rotate_left
                       · intro w'
                         go_simp
                         with_reducible rfl
                       rotate_left
                       · simp only [Act.put, List.setIfInBounds_toArray, List.set_cons_zero, List.set_cons_succ, aJ, aK]
                         rfl
                       refine iP (i := 9) (N := some 40) (v := ?_) (a' := ?_) #[true, true, true, true, true, true, true, true, true, true, true, true, false, false, true, false, false, false, true, false, true, true, false, false, true, false, false, false, false, false, false, false] rfl rfl (eF dF.out pI.out (by kernel_rfl)) (fun _ _ _ h => h) (Or.inl ⟨by rfl, ?_⟩) hHeld ?_ ?_
                       rotate_left
                       · rintro w' ⟨s0, s1, s2, s3, s4, s5, s6, s7⟩
                         go_simp
                         with_reducible rfl
                       rotate_left
                       · simp only [Act.put, List.setIfInBounds_toArray, List.set_cons_zero, List.set_cons_succ, aJ, aK]
                         rfl
                       refine iP (i := 12) (N := some 43) (v := ?_) (a' := ?_) #[true, true, true, true, true, true, true, true, true, true, true, true, true, false, true, false, false, false, true, false, true, true, false, false, true, false, false, false, false, false, false, false] rfl rfl (eF dF.out pI.out (by kernel_rfl)) (fun _ _ _ h => h) (Or.inl ⟨by rfl, ?_⟩) hHeld ?_ ?_
                       rotate_left
                       · rintro w' ⟨s0, s1, s2, s3, s4, s5, s6, s7⟩
                         go_simp
                         with_reducible rfl
                       rotate_left
                       · simp only [Act.put, List.setIfInBounds_toArray, List.set_cons_zero, List.set_cons_succ, aJ, aK]
                         rfl
                       refine bf (i := 13) (N := some 44) (v := ?_) (a' := ?_) #[true, true, true, true, true, true, true, true, true, true, true, true, true, true, true, false, false, false, true, false, true, true, false, false, true, false, false, false, false, false, false, false] rfl rfl (aN dF.out (by kernel_rfl)) (fun _ _ _ h => h) (Or.inl ⟨by rfl, ?_⟩) ?_ ?_
                       rotate_left
                       · intro w'
                         go_simp
                         with_reducible rfl
                       rotate_left
                       · simp only [Act.put, List.setIfInBounds_toArray, List.set_cons_zero, List.set_cons_succ, aJ, aK]
                         rfl
                       refine bf (i := 15) (N := some 46) (v := ?_) (a' := ?_) #[true, true, true, true, true, true, true, true, true, true, true, true, true, true, true, true, false, false, true, false, true, true, false, false, true, false, false, false, false, false, false, false] rfl rfl (aN dF.out (by kernel_rfl)) (fun _ _ _ h => h) (Or.inl ⟨by rfl, ?_⟩) ?_ ?_
                       rotate_left
                       · intro w'
                         go_simp
                         with_reducible rfl
                       rotate_left
                       · simp only [Act.put, List.setIfInBounds_toArray, List.set_cons_zero, List.set_cons_succ, aJ, aK]
                         rfl
                       refine bf (i := 16) (N := some 47) (v := ?_) (a' := ?_) #[true, true, true, true, true, true, true, true, true, true, true, true, true, true, true, true, true, false, true, false, true, true, false, false, true, false, false, false, false, false, false, false] rfl rfl (aN dF.out (by kernel_rfl)) (fun _ _ _ h => h) (Or.inl ⟨by rfl, ?_⟩) ?_ ?_
                       rotate_left
                       · intro w'
                         go_simp
                         with_reducible rfl
                       rotate_left
                       · simp only [Act.put, List.setIfInBounds_toArray, List.set_cons_zero, List.set_cons_succ, aJ, aK]
                         rfl
                       refine iP (i := 17) (N := some 48) (v := ?_) (a' := ?_) #[true, true, true, true, true, true, true, true, true, true, true, true, true, true, true, true, true, true, true, false, true, true, false, false, true, false, false, false, false, false, false, false] rfl rfl (eF dF.out pI.out (by kernel_rfl)) (fun _ _ _ h => h) (Or.inl ⟨by rfl, ?_⟩) hHeld ?_ ?_
                       rotate_left
                       · rintro w' ⟨s0, s1, s2, s3, s4, s5, s6, s7⟩
                         go_simp
                         with_reducible rfl
                       rotate_left
                       · simp only [Act.put, List.setIfInBounds_toArray, List.set_cons_zero, List.set_cons_succ, aJ, aK]
                         rfl
                       refine iP (i := 19) (N := some 50) (v := ?_) (a' := ?_) #[true, true, true, true, true, true, true, true, true, true, true, true, true, true, true, true, true, true, true, true, true, true, false, false, true, false, false, false, false, false, false, false] rfl rfl (eF dF.out pI.out (by kernel_rfl)) (fun _ _ _ h => h) (Or.inl ⟨by rfl, ?_⟩) hHeld ?_ ?_
                       rotate_left
                       · rintro w' ⟨s0, s1, s2, s3, s4, s5, s6, s7⟩
                         go_simp
                         with_reducible rfl
                       rotate_left
                       · simp only [Act.put, List.setIfInBounds_toArray, List.set_cons_zero, List.set_cons_succ, aJ, aK]
                         rfl
                       refine iP (i := 22) (N := some 53) (v := ?_) (a' := ?_) #[true, true, true, true, true, true, true, true, true, true, true, true, true, true, true, true, true, true, true, true, true, true, true, false, true, false, false, false, false, false, false, false] rfl rfl (eF dF.out pI.out (by kernel_rfl)) (fun _ _ _ h => h) (Or.inl ⟨by rfl, ?_⟩) hHeld ?_ ?_
                       rotate_left
                       · rintro w' ⟨s0, s1, s2, s3, s4, s5, s6, s7⟩
                         go_simp
                         with_reducible rfl
                       rotate_left
                       · simp only [Act.put, List.setIfInBounds_toArray, List.set_cons_zero, List.set_cons_succ, aJ, aK]
                         rfl
                       refine bf (i := 23) (N := some 54) (v := ?_) (a' := ?_) #[true, true, true, true, true, true, true, true, true, true, true, true, true, true, true, true, true, true, true, true, true, true, true, true, true, false, false, false, false, false, false, false] rfl rfl (aN dF.out (by kernel_rfl)) (fun _ _ _ h => h) (Or.inl ⟨by rfl, ?_⟩) ?_ ?_
                       rotate_left
                       · intro w'
                         go_simp
                         with_reducible rfl
                       rotate_left
                       · simp only [Act.put, List.setIfInBounds_toArray, List.set_cons_zero, List.set_cons_succ, aJ, aK]
                         rfl
                       refine bf (i := 25) (N := some 56) (v := ?_) (a' := ?_) #[true, true, true, true, true, true, true, true, true, true, true, true, true, true, true, true, true, true, true, true, true, true, true, true, true, true, false, false, false, false, false, false] rfl rfl (aN dF.out (by kernel_rfl)) (fun _ _ _ h => h) (Or.inl ⟨by rfl, ?_⟩) ?_ ?_
                       rotate_left
                       · intro w'
                         go_simp
                         with_reducible rfl
                       rotate_left
                       · simp only [Act.put, List.setIfInBounds_toArray, List.set_cons_zero, List.set_cons_succ, aJ, aK]
                         rfl
                       refine bf (i := 26) (N := some 57) (v := ?_) (a' := ?_) #[true, true, true, true, true, true, true, true, true, true, true, true, true, true, true, true, true, true, true, true, true, true, true, true, true, true, true, false, false, false, false, false] rfl rfl (aN dF.out (by kernel_rfl)) (fun _ _ _ h => h) (Or.inl ⟨by rfl, ?_⟩) ?_ ?_
                       rotate_left
                       · intro w'
                         go_simp
                         with_reducible rfl
                       rotate_left
                       · simp only [Act.put, List.setIfInBounds_toArray, List.set_cons_zero, List.set_cons_succ, aJ, aK]
                         rfl
                       refine iP (i := 27) (N := some 58) (v := ?_) (a' := ?_) #[true, true, true, true, true, true, true, true, true, true, true, true, true, true, true, true, true, true, true, true, true, true, true, true, true, true, true, true, false, false, false, false] rfl rfl (eF dF.out pI.out (by kernel_rfl)) (fun _ _ _ h => h) (Or.inl ⟨by rfl, ?_⟩) hHeld ?_ ?_
                       rotate_left
                       · rintro w' ⟨s0, s1, s2, s3, s4, s5, s6, s7⟩
                         go_simp
                         with_reducible rfl
                       rotate_left
                       · simp only [Act.put, List.setIfInBounds_toArray, List.set_cons_zero, List.set_cons_succ, aJ, aK]
                         rfl
                       refine bf (i := 28) (N := some 59) (v := ?_) (a' := ?_) #[true, true, true, true, true, true, true, true, true, true, true, true, true, true, true, true, true, true, true, true, true, true, true, true, true, true, true, true, true, false, false, false] rfl rfl (aN dF.out (by kernel_rfl)) (fun _ _ _ h => h) (Or.inl ⟨by rfl, ?_⟩) ?_ ?_
                       rotate_left
                       · intro w'
                         go_simp
                         with_reducible rfl
                       rotate_left
                       · simp only [Act.put, List.setIfInBounds_toArray, List.set_cons_zero, List.set_cons_succ, aJ, aK]
                         rfl
                       refine nC (i := 29) (N := some 60) #[true, true, true, true, true, true, true, true, true, true, true, true, true, true, true, true, true, true, true, true, true, true, true, true, true, true, true, true, true, true, false, false] rfl rfl (iF dF.out (by kernel_rfl)) (by decide) (fun K hK => ?_)
                       refine kU Try.func81 (by kernel_rfl) rfl #[.int .i64 (wrap64 ((rd aY (qB)) + (rd aY (Af)))), .int .i64 1] (by rfl) rfl rfl (by (try simp only [List.map_toArray, List.map_cons, List.map_nil]); first | done | (simp only [Pq, Po]; rfl) | rfl | (simp only [List.length_drop, List.length_take]; rfl)) ?_
                       with_reducible refine (bP.calls k2 (wrap64 ((rd aY (qB)) + (rd aY (Af)))) 1 GZ _ A25.out).mono ?_
                       rintro e w' ⟨rfl, ⟨nd, rfl⟩⟩
                       refine ⟨_, rfl, ?_⟩
                       have p27 : 0 ≤ ((qB) : Int) := of_decide_eq_true (by first | (with_reducible assumption) | assumption)
                       have q27 : ((qB) : Int) < ((jU.length : Int) : Int) := of_decide_eq_true (by first | (with_reducible assumption) | assumption)
                       obtain ⟨aiM, XE, XA, abk, aiN, aoo, ac1⟩ := Kd.JV jX.out (by omega)
                       (first | cases XA | (injection XA with JI Zq Zr; (first | subst JI | (injection JI with JI; subst JI)); subst Zr; clear Zq))
                       have ajO := ah.mk abk
                       have aoJ := ah.mk ac1
                       clear abk aiN ac1
                       obtain ⟨ahY, aiB⟩ := Kd.EN 0 jX.out ((qB) : Int) p27 q27
                       replace p27 := eq_true p27
                       replace q27 := eq_true q27
                       have Z8 := Kd.Ot jX.out ((qB) : Int) GZ
                       rw [← acA.out] at Z8
                       have ajI := ah.mk Z8
                       clear Z8
                       refine hK.out _ _ ⟨(aj kZ.out 0).trans rfl, (aj kZ.out 1).trans rfl, (aj kZ.out 2).trans rfl, (aj fV.out 0).trans rfl, (aj fV.out 1).trans rfl, (aj fV.out 2).trans rfl, ((HB.out.cell (World.block_lt_of_cell? w _ Et)).trans Et), ((HB.out.cell (World.block_lt_of_cell? w _ Es)).trans Es)⟩ (fun hHeld => ?_)
                       clear hK K
                       refine iV (a' := ?_) ?_ ?_
                       rotate_left
                       · show Act.put _ (some 60) _ = _
                         simp only [Act.put, List.setIfInBounds_toArray, List.set_cons_zero, List.set_cons_succ, aJ, aK]
                         rfl
                       refine bf (i := 30) (N := some 61) (v := ?_) (a' := ?_) #[true, true, true, true, true, true, true, true, true, true, true, true, true, true, true, true, true, true, true, true, true, true, true, true, true, true, true, true, true, true, true, false] rfl rfl (aN dF.out (by kernel_rfl)) (fun _ _ _ h => h) (Or.inl ⟨by rfl, ?_⟩) ?_ ?_
                       rotate_left
                       · intro w'
                         go_simp
                         with_reducible rfl
                       rotate_left
                       · simp only [Act.put, List.setIfInBounds_toArray, List.set_cons_zero, List.set_cons_succ, aJ, aK]
                         rfl
                       refine TA (i := 31) (N := none) #[true, true, true, true, true, true, true, true, true, true, true, true, true, true, true, true, true, true, true, true, true, true, true, true, true, true, true, true, true, true, true, true] rfl rfl (iF dF.out (by kernel_rfl)) (by decide) (fun K hK => ?_)
                       refine Du (w1 := ?_) (by rfl) rfl ?_ ?_
                       rotate_left
                       · go_simp
                         rfl
                       refine hK.out _ _ ?_
                       clear hK K
                       refine tJ (lW dF.out (by kernel_rfl)) ?_
                       try go_wp2
                       go_roundg k2
                       case measure => have := Aq.out; have := yN.out; omega
                       case rel => exact ⟨(wrap64 (xW + 1)), (aax), (.slice (some ⟨aiM, 0, none⟩) jU.length XE), (by first | rfl | (simp; done) | (simp [*]; done)), H', ⟨by have := Aq.out; have := yN.out; omega⟩, ⟨by (with_reducible repeat (first | apply Kd.bZ | apply Kd.bY | apply Kd.dA)); exact ajI.out⟩, ⟨by (with_reducible repeat (first | refine ay ?_ _ | refine aC ?_ | refine az ?_ _)); refine dL ?_ (by have h_ := Kd.wO jX.out fV.out (by decide); intro e_; exact h_ (by rw [e_]; rfl)) _; (with_reducible repeat (first | refine ay ?_ _ | refine aC ?_ | refine az ?_ _)); exact fV.out⟩, ⟨by (with_reducible repeat (first | refine ay ?_ _ | refine aC ?_ | refine az ?_ _)); refine dL ?_ (by have h_ := Kd.wO jX.out kD.out (by decide); intro e_; exact h_ (by rw [e_]; rfl)) _; (with_reducible repeat (first | refine ay ?_ _ | refine aC ?_ | refine az ?_ _)); exact kD.out⟩, ⟨by (with_reducible repeat (first | refine ay ?_ _ | refine aC ?_ | refine az ?_ _)); refine dL ?_ (by have h_ := Kd.wO jX.out kZ.out (by decide); intro e_; exact h_ (by rw [e_]; rfl)) _; (with_reducible repeat (first | refine ay ?_ _ | refine aC ?_ | refine az ?_ _)); exact kZ.out⟩, ⟨by repeat (first | (with_reducible first | exact HB.out | apply au | apply af | apply ak | refine aG ?_ ajO.out | refine aG ?_ qW.out | refine aG ?_ xQ.out | refine aG ?_ Mc.out) | exact HB.out)⟩⟩
                     · rw [if_neg JP] at H
                       exact absurd H (by simp)
                   · rw [if_neg c24] at H
                     exact absurd H (by simp)
                 · rw [if_neg c23] at H
                   exact absurd H (by simp)
               · rw [if_neg c21] at H
                 exact absurd H (by simp)
             · rw [if_neg c20] at H
               exact absurd H (by simp)
           · rw [if_neg c18] at H
             have BI : decide (xW < a_) = false := decide_eq_false c18
             clear c18
             have H' := ah.mk H
             clear H
             have akC := rG.out
             have akl := rF.out
             have akB := qh.out
             have akk := wQ.out
             have WQ : wr.cell? ⟨je, 0, none⟩ = some (.int .i64 aQ) := (aj fV.out 0).trans rfl
             have WO : wr.cell? ⟨je, 1, none⟩ = some (.int .i64 a_) := (aj fV.out 1).trans rfl
             have WN : wr.cell? ⟨je, 2, none⟩ = some (.slice cO aY.length cu) := (aj fV.out 2).trans rfl
             have VR := aA fV.out 0
             have VQ := aA fV.out 1
             have VP := aA fV.out 2
             go_wp2
             go_roundg k2
             case measure => have := Aq.out; have := yN.out; omega
             case rel => exact ⟨(wrap64 (lC + 1)), (jU), (qx), (by first | rfl | (simp; done) | (simp [*]; done)), H', ⟨by have := Aq.out; have := yN.out; omega⟩, ⟨by (with_reducible repeat (first | apply Kd.bZ | apply Kd.bY | apply Kd.dA)); exact jX.out⟩, ⟨by (with_reducible repeat (first | refine ay ?_ _ | refine aC ?_ | refine az ?_ _)); exact fV.out⟩, ⟨by (with_reducible repeat (first | refine ay ?_ _ | refine aC ?_ | refine az ?_ _)); exact kD.out⟩, ⟨by (with_reducible repeat (first | refine ay ?_ _ | refine aC ?_ | refine az ?_ _)); exact kZ.out⟩, ⟨by repeat (first | (with_reducible first | exact HB.out | apply au | apply af | apply ak | refine aG ?_ qW.out | refine aG ?_ xQ.out | refine aG ?_ Mc.out) | exact HB.out)⟩⟩
      · rw [if_neg c14] at H
        have oQ : decide (lC < aQ) = false := decide_eq_false c14
        clear c14
        simp only [Option.some.injEq, Prod.mk.injEq] at H
        obtain ⟨rfl, rfl, rfl, rfl, rfl⟩ := H
        have aa3 := rG.out
        have aaV := rF.out
        have akA := qh.out
        have akj := wQ.out
        have agJ : wr.cell? ⟨je, 0, none⟩ = some (.int .i64 aQ) := (aj fV.out 0).trans rfl
        have agI : wr.cell? ⟨je, 1, none⟩ = some (.int .i64 a_) := (aj fV.out 1).trans rfl
        have agH : wr.cell? ⟨je, 2, none⟩ = some (.slice cO aY.length cu) := (aj fV.out 2).trans rfl
        have afr := aA fV.out 0
        have afq := aA fV.out 1
        have afp := aA fV.out 2
        have akz := Ik.out
        have aki := wR.out
        have WM : wr.cell? ⟨qg, 0, none⟩ = some (.int .i64 wZ) := (aj kZ.out 0).trans rfl
        have WL : wr.cell? ⟨qg, 1, none⟩ = some (.int .i64 xZ) := (aj kZ.out 1).trans rfl
        have WJ : wr.cell? ⟨qg, 2, none⟩ = some (qx) := (aj kZ.out 2).trans rfl
        have VO := aA kZ.out 0
        have VN := aA kZ.out 1
        have VM := aA kZ.out 2
        have WI : wr.cell? ⟨lS, 0, none⟩ = some (.int .i64 0) := (aj kD.out 0).trans rfl
        have WH : wr.cell? ⟨lS, 1, none⟩ = some (.int .i64 0) := (aj kD.out 1).trans rfl
        have WG : wr.cell? ⟨lS, 2, none⟩ = some (.slice none 0 0) := (aj kD.out 2).trans rfl
        have VL := aA kD.out 0
        have VK := aA kD.out 1
        have VJ := aA kD.out 2
        obtain ⟨XZ, XD, Xz⟩ := Kd.iq jX.out
        subst Xz
        go_wp2
        refine bodyPost_ret (Dv rfl _ _ lS 26 #[.int .i64 wZ, .int .i64 xZ, .slice XZ uw.length XD] (0, 0) _ rfl (by (with_reducible repeat (first | refine ay ?_ _ | refine aC ?_ | refine az ?_ _)); refine bQ (cs := #[.int .i64 wZ, .int .i64 xZ, .slice none 0 0]) ?_ 2 _ rfl; (with_reducible repeat (first | refine ay ?_ _ | refine aC ?_ | refine az ?_ _)); refine bQ (cs := #[.int .i64 wZ, .int .i64 0, .slice none 0 0]) ?_ 1 _ rfl; (with_reducible repeat (first | refine ay ?_ _ | refine aC ?_ | refine az ?_ _)); refine bQ (cs := #[.int .i64 0, .int .i64 0, .slice none 0 0]) ?_ 0 _ rfl; (with_reducible repeat (first | refine ay ?_ _ | refine aC ?_ | refine az ?_ _)); exact kD.out) Try.underlying26 rfl (by kernel_rfl)) rfl ?_
        exact ⟨_, by first | rfl | (simp [aU, aT] <;> rfl) | (simp [*, aU, aT] <;> rfl), by (with_reducible repeat (first | apply Kd.bZ | apply Kd.bY | apply Kd.dA)); exact Kd.fQ (Kd.dM (p := ⟨lS, 2, none⟩) (Kd.dM (p := ⟨lS, 1, none⟩) (Kd.dM (p := ⟨lS, 0, none⟩) (Kd.iM jX.out kD.out (by decide)) (fun _ hk => hk.2) (.int .i64 wZ)) (fun _ hk => hk.2) (.int .i64 xZ)) (fun _ hk => hk.2) (.slice XZ uw.length XD)) (fun _ hk => trivial), by repeat (first | (with_reducible first | exact HB.out | apply au | apply af | apply ak | refine aG ?_ qW.out | refine aG ?_ xQ.out | refine aG ?_ Mc.out) | exact HB.out)⟩
 · rw [if_neg c2] at H
   have Oj : (aQ == a_) = false := beq_eq_false_iff_ne.mpr c2
   have ZC : (aQ != a_) = true := bne_iff_ne.mpr c2
   simp only [Option.some.injEq, Prod.mk.injEq] at H
   obtain ⟨rfl, rfl, rfl, rfl, rfl⟩ := H
   go_enter Try.func43, Try.ntmps43
   go_wp2_with (first | ((with_reducible refine dY (N := 1) rfl ?_); refine dH ?hg (N := 1) ?hd (cs := #[.int .i64 aQ, .int .i64 a_, .slice cO aY.length cu]) (t := 26) ?hr ?_; (case hd => rfl); (case hg => rfl); (case hr => first | (go_simp; done) | (go_simp; rfl)); intro je hg w43 hbox hb; have bT := ah.mk (aI (by repeat (first | (with_reducible first | exact HB.out | apply au | apply af | apply ak) | exact HB.out)) hb); have dD := ah.mk (hbox); have dQ := ah.mk ((by rw [hg]; exact (aW (by repeat (first | (with_reducible first | exact HB.out | apply au | apply af | apply ak) | exact HB.out))) : w.heap.size ≤ je)); have eH := ah.mk ((by rw [hg]; exact (aW (by repeat (first | (with_reducible first | exact HB.out | apply au | apply af | apply ak) | exact HB.out))) : w.heap.size ≤ je)); clear HB; have HB := bT; have fV := dD; have ac7 := dQ; have qW := eH; clear bT dD dQ eH; clear hb hbox hg) | ((with_reducible refine dY (N := 2) rfl ?_); refine dH ?hg (N := 2) ?hd (cs := #[.int .i64 0, .int .i64 0, .slice none 0 0]) (t := 26) ?hr ?_; (case hd => rfl); (case hg => rfl); (case hr => first | (go_simp; done) | (go_simp; rfl)); intro lS hg BR hbox hb; have bT := ah.mk (bg (g := je) (o := .cells #[.int .i64 aQ, .int .i64 a_, .slice cO aY.length cu] 26 (0, 0)) (by (with_reducible repeat (first | refine ay ?_ _ | refine aC ?_ | refine az ?_ _)); exact fV.out) hb); have dD := ah.mk (aI (by repeat (first | (with_reducible first | exact HB.out | apply au | apply af | apply ak | refine aG ?_ qW.out) | exact HB.out)) hb); have dQ := ah.mk (hbox); have eH := ah.mk ((by rw [hg]; exact (aW (by repeat (first | (with_reducible first | exact HB.out | apply au | apply af | apply ak | refine aG ?_ qW.out) | exact HB.out))) : w.heap.size ≤ lS)); have iw := ah.mk ((by rw [hg]; exact (aW (by repeat (first | (with_reducible first | exact HB.out | apply au | apply af | apply ak | refine aG ?_ qW.out) | exact HB.out))) : w.heap.size ≤ lS)); have iQ := ah.mk ((by rw [hg]; exact Nat.ne_of_lt (dP (g := je) (o := .cells #[.int .i64 aQ, .int .i64 a_, .slice cO aY.length cu] 26 (0, 0)) (by (with_reducible repeat (first | refine ay ?_ _ | refine aC ?_ | refine az ?_ _)); exact fV.out)) : je ≠ lS)); have jk := ah.mk ((by rw [hg]; exact Nat.ne_of_gt (dP (g := je) (o := .cells #[.int .i64 aQ, .int .i64 a_, .slice cO aY.length cu] 26 (0, 0)) (by (with_reducible repeat (first | refine ay ?_ _ | refine aC ?_ | refine az ?_ _)); exact fV.out)) : lS ≠ je)); clear fV; clear HB; have fV := bT; have HB := dD; have kD := dQ; have ac6 := eH; have xQ := iw; have rG := iQ; have rF := jk; clear bT dD dQ eH iw iQ jk; clear hb hbox hg; have aky := rG.out; have akh := rF.out; have agA : BR.cell? ⟨je, 0, none⟩ = some (.int .i64 aQ) := (aj fV.out 0).trans rfl; have agz : BR.cell? ⟨je, 1, none⟩ = some (.int .i64 a_) := (aj fV.out 1).trans rfl; have agy : BR.cell? ⟨je, 2, none⟩ = some (.slice cO aY.length cu) := (aj fV.out 2).trans rfl; have afi := aA fV.out 0; have afh := aA fV.out 1; have afg := aA fV.out 2; have agx : BR.cell? ⟨lS, 0, none⟩ = some (.int .i64 0) := (aj kD.out 0).trans rfl; have agw : BR.cell? ⟨lS, 1, none⟩ = some (.int .i64 0) := (aj kD.out 1).trans rfl; have agv : BR.cell? ⟨lS, 2, none⟩ = some (.slice none 0 0) := (aj kD.out 2).trans rfl; have aff := aA kD.out 0; have afe := aA kD.out 1; have afd := aA kD.out 2))
   refine bodyPost_ret (Dv rfl _ _ lS 26 #[.int .i64 0, .int .i64 0, .slice none 0 0] (0, 0) _ rfl (by (with_reducible repeat (first | refine ay ?_ _ | refine aC ?_ | refine az ?_ _)); refine bQ (cs := #[.int .i64 0, .int .i64 0, .slice none 0 0]) ?_ 2 _ rfl; (with_reducible repeat (first | refine ay ?_ _ | refine aC ?_ | refine az ?_ _)); refine bQ (cs := #[.int .i64 0, .int .i64 0, .slice none 0 0]) ?_ 1 _ rfl; (with_reducible repeat (first | refine ay ?_ _ | refine aC ?_ | refine az ?_ _)); refine bQ (cs := #[.int .i64 0, .int .i64 0, .slice none 0 0]) ?_ 0 _ rfl; (with_reducible repeat (first | refine ay ?_ _ | refine aC ?_ | refine az ?_ _)); exact kD.out) Try.underlying26 rfl (by kernel_rfl)) rfl ?_
   exact ⟨_, by first | rfl | (simp [aU, aT] <;> rfl) | (simp [*, aU, aT] <;> rfl), by first | exact Kd.qV _ _ _ _ _ | exact Kd.vV _ _ _ _ _ | exact Kd.vP _ _ _ _ _ | exact Kd.vU _ _ _ _ _ | exact Kd.vS _ _ _ _ _, by repeat (first | (with_reducible first | exact HB.out | apply au | apply af | apply ak | refine aG ?_ qW.out | refine aG ?_ xQ.out) | exact HB.out)⟩
def dU.l0 : Nat → Int → Int → Int → List Int → Option (Int × Int × List Int)
 | 0, _, _, _, _ => none
 | k + 1, x6, uU, II, Ar => if x6 < uU then (if 0 ≤ (wrap64 ((wrap64 (x6 * uU)) + x6)) then (if (wrap64 ((wrap64 (x6 * uU)) + x6)) < (Ar.length : Int) then (if (rd Ar (wrap64 ((wrap64 (x6 * uU)) + x6))) < 0 then (dU.l0 k (wrap64 (x6 + 1)) uU II (Ar.set ((wrap64 ((wrap64 (x6 * uU)) + x6)) : Int).toNat 0)) else (dU.l0 k (wrap64 (x6 + 1)) uU II Ar)) else (none)) else (none)) else (some (uU, II, Ar))
def dU.f (k : Nat) (aQ : Int) (a_ : Int) (aY : List Int) : Option (Int × Int × List Int) := (bJ.f k aQ a_ aY).bind fun Gs => (dU.l0 k 0 Gs.1 Gs.2.1 Gs.2.2.1)
theorem dU.calls (k : Nat) (aQ : Int) (a_ : Int) (cO : Option Addr) (cu : Nat) (aY : List Int) (r1 : Int) (r2 : Int) (r3 : List Int) (w : World) (jl : Kd.C (Kd.int .i64) w cO aY.length aY) (jD : aY.length ≤ cu) (h : dU.f k aQ a_ aY = some (r1, r2, r3)) :
 Calls Try.prog 22 #[.agg #[.int .i64 aQ, .int .i64 a_, .slice cO aY.length cu]] w fun e w' => ∃ wX : Value, e = .returned (.agg #[.int .i64 r1, .int .i64 r2, wX]) ∧ Kd.R (Kd.int .i64) 22 w' w.heap.size (fun _ => True) wX r3 ∧ Below w.heap.size w w' := by
 have yz := Try.underlying26
 have kC := ah.mk jl
 have lM := ah.mk jD
 clear jl jD
 have HB := ah.mk (Below.refl w.heap.size w)
 have H : ((bJ.f k aQ a_ aY).bind fun Gs => (dU.l0 k 0 Gs.1 Gs.2.1 Gs.2.2.1)) = some (r1, r2, r3) := h
 clear h
 replace H := Option.bind_eq_some_iff.mp H
 obtain ⟨⟨uz, zK, SL, ahM, ahL⟩, YN, H⟩ := H
 replace H : (dU.l0 k 0 uz zK SL) = some (r1, r2, r3) := H
 have A2 := ah.mk YN
 clear YN
 have H' := ah.mk H
 clear H
 go_enter Try.func22, Try.ntmps22
 go_wp2_with (first | ((with_reducible refine dY (N := 1) rfl ?_); refine dH ?hg (N := 1) ?hd (cs := #[.int .i64 aQ, .int .i64 a_, .slice cO aY.length cu]) (t := 26) ?hr ?_; (case hd => rfl); (case hg => rfl); (case hr => first | (go_simp; done) | (go_simp; rfl)); intro qQ hg w3 hbox hb; have bT := ah.mk (aI (by repeat (first | (with_reducible first | exact HB.out | apply au | apply af | apply ak) | exact HB.out)) hb); have dD := ah.mk (hbox); have dQ := ah.mk ((by rw [hg]; exact (aW (by repeat (first | (with_reducible first | exact HB.out | apply au | apply af | apply ak) | exact HB.out))) : w.heap.size ≤ qQ)); have eH := ah.mk ((by rw [hg]; exact (aW (by repeat (first | (with_reducible first | exact HB.out | apply au | apply af | apply ak) | exact HB.out))) : w.heap.size ≤ qQ)); clear HB; have HB := bT; have mF := dD; have amk := dQ; have xP := eH; clear bT dD dQ eH; clear hb hbox hg) | ((with_reducible refine dY (N := 2) rfl ?_); refine dH ?hg (N := 2) ?hd (cs := #[.int .i64 0, .int .i64 0, .slice none 0 0]) (t := 26) ?hr ?_; (case hd => rfl); (case hg => rfl); (case hr => first | (go_simp; done) | (go_simp; rfl)); intro qF hg w4 hbox hb; have bT := ah.mk (bg (g := qQ) (o := .cells #[.int .i64 aQ, .int .i64 a_, .slice cO aY.length cu] 26 (0, 0)) (by (with_reducible repeat (first | refine ay ?_ _ | refine aC ?_ | refine az ?_ _)); exact mF.out) hb); have dD := ah.mk (aI (by repeat (first | (with_reducible first | exact HB.out | apply au | apply af | apply ak | refine aG ?_ xP.out) | exact HB.out)) hb); have dQ := ah.mk (hbox); have eH := ah.mk ((by rw [hg]; exact (aW (by repeat (first | (with_reducible first | exact HB.out | apply au | apply af | apply ak | refine aG ?_ xP.out) | exact HB.out))) : w.heap.size ≤ qF)); have iw := ah.mk ((by rw [hg]; exact (aW (by repeat (first | (with_reducible first | exact HB.out | apply au | apply af | apply ak | refine aG ?_ xP.out) | exact HB.out))) : w.heap.size ≤ qF)); have iQ := ah.mk ((by rw [hg]; exact Nat.ne_of_lt (dP (g := qQ) (o := .cells #[.int .i64 aQ, .int .i64 a_, .slice cO aY.length cu] 26 (0, 0)) (by (with_reducible repeat (first | refine ay ?_ _ | refine aC ?_ | refine az ?_ _)); exact mF.out)) : qQ ≠ qF)); have jk := ah.mk ((by rw [hg]; exact Nat.ne_of_gt (dP (g := qQ) (o := .cells #[.int .i64 aQ, .int .i64 a_, .slice cO aY.length cu] 26 (0, 0)) (by (with_reducible repeat (first | refine ay ?_ _ | refine aC ?_ | refine az ?_ _)); exact mF.out)) : qF ≠ qQ)); clear mF; clear HB; have mF := bT; have HB := dD; have nP := dQ; have amj := eH; have BQ := iw; have Ij := iQ; have Ii := jk; clear bT dD dQ eH iw iQ jk; clear hb hbox hg; have ah9 := Ij.out; have ah7 := Ii.out; have tu : w4.cell? ⟨qQ, 0, none⟩ = some (.int .i64 aQ) := (aj mF.out 0).trans rfl; have tq : w4.cell? ⟨qQ, 1, none⟩ = some (.int .i64 a_) := (aj mF.out 1).trans rfl; have uK : w4.cell? ⟨qQ, 2, none⟩ = some (.slice cO aY.length cu) := (aj mF.out 2).trans rfl; have sV := aA mF.out 0; have sU := aA mF.out 1; have uJ := aA mF.out 2) | ((with_reducible refine aV (f := 43) rfl ?_); refine cZ (some 9) rfl rfl Try.func43 (by kernel_rfl) rfl #[.agg #[.int .i64 aQ, .int .i64 a_, .slice cO aY.length cu]] rfl (by (try simp only [List.map_toArray, List.map_cons, List.map_nil]); first | done | rfl | (simp only [List.length_drop, List.length_take]; rfl)) ?_; (with_reducible refine (bJ.calls k aQ a_ _ _ aY uz zK SL ahM ahL _ ?eY ?eX A2.out).mono ?_); (case eY => repeat (first | exact (Kd.fB kC.out HB.out) | (with_reducible refine Kd.fE ?_ _) | (with_reducible refine Kd.fD ?_ _) | (with_reducible refine Kd.gm ?_))); (case eX => exact lM.out); rintro e w7 ⟨am5, rfl, ho0, hb⟩; refine ⟨_, rfl, ?_⟩; have bT := ah.mk (Kd.jG ho0 (aW (by repeat (first | (with_reducible first | exact HB.out | apply au | apply af | apply ak | refine aG ?_ xP.out | refine aG ?_ BQ.out) | exact HB.out)))); have dD := ah.mk (bg (g := qQ) (o := .cells #[.int .i64 aQ, .int .i64 a_, .slice cO aY.length cu] 26 (0, 0)) (by (with_reducible repeat (first | refine ay ?_ _ | refine aC ?_ | refine az ?_ _)); exact mF.out) hb); have dQ := ah.mk (bg (g := qF) (o := .cells #[.int .i64 0, .int .i64 0, .slice none 0 0] 26 (0, 0)) (by (with_reducible repeat (first | refine ay ?_ _ | refine aC ?_ | refine az ?_ _)); exact nP.out) hb); have eH := ah.mk (aI (by repeat (first | (with_reducible first | exact HB.out | apply au | apply af | apply ak | refine aG ?_ xP.out | refine aG ?_ BQ.out) | exact HB.out)) hb); clear mF; clear nP; clear HB; have L6 := bT; have mF := dD; have nP := dQ; have HB := eH; clear bT dD dQ eH; (try clear hb); (try clear hb2); (try clear hk); (try clear hi); (try clear ho0)) | ((with_reducible refine dY (N := 3) rfl ?_); refine dH ?hg (N := 3) ?hd (cs := #[.int .i64 0, .int .i64 0, .slice none 0 0]) (t := 26) ?hr ?_; (case hd => rfl); (case hg => rfl); (case hr => first | (go_simp; done) | (go_simp; rfl)); intro nX hg w8 hbox hb; have bT := ah.mk (Kd.iO (by (with_reducible repeat (first | apply Kd.bZ | apply Kd.bY | apply Kd.dA)); exact L6.out) hb); have dD := ah.mk (bg (g := qQ) (o := .cells #[.int .i64 aQ, .int .i64 a_, .slice cO aY.length cu] 26 (0, 0)) (by (with_reducible repeat (first | refine ay ?_ _ | refine aC ?_ | refine az ?_ _)); exact mF.out) hb); have dQ := ah.mk (bg (g := qF) (o := .cells #[.int .i64 0, .int .i64 0, .slice none 0 0] 26 (0, 0)) (by (with_reducible repeat (first | refine ay ?_ _ | refine aC ?_ | refine az ?_ _)); exact nP.out) hb); have eH := ah.mk (aI (by repeat (first | (with_reducible first | exact HB.out | apply au | apply af | apply ak | refine aG ?_ xP.out | refine aG ?_ BQ.out) | exact HB.out)) hb); have iw := ah.mk (hbox); have iQ := ah.mk ((by rw [hg]; exact (aW (by repeat (first | (with_reducible first | exact HB.out | apply au | apply af | apply ak | refine aG ?_ xP.out | refine aG ?_ BQ.out) | exact HB.out))) : w.heap.size ≤ nX)); have jk := ah.mk ((by rw [hg]; exact (aW (by repeat (first | (with_reducible first | exact HB.out | apply au | apply af | apply ak | refine aG ?_ xP.out | refine aG ?_ BQ.out) | exact HB.out))) : w.heap.size ≤ nX)); have mQ := ah.mk ((by rw [hg]; exact Nat.ne_of_lt (dP (g := qQ) (o := .cells #[.int .i64 aQ, .int .i64 a_, .slice cO aY.length cu] 26 (0, 0)) (by (with_reducible repeat (first | refine ay ?_ _ | refine aC ?_ | refine az ?_ _)); exact mF.out)) : qQ ≠ nX)); have qA := ah.mk ((by rw [hg]; exact Nat.ne_of_gt (dP (g := qQ) (o := .cells #[.int .i64 aQ, .int .i64 a_, .slice cO aY.length cu] 26 (0, 0)) (by (with_reducible repeat (first | refine ay ?_ _ | refine aC ?_ | refine az ?_ _)); exact mF.out)) : nX ≠ qQ)); have uD := ah.mk ((by rw [hg]; exact Nat.ne_of_lt (dP (g := qF) (o := .cells #[.int .i64 0, .int .i64 0, .slice none 0 0] 26 (0, 0)) (by (with_reducible repeat (first | refine ay ?_ _ | refine aC ?_ | refine az ?_ _)); exact nP.out)) : qF ≠ nX)); have kP := ah.mk ((by rw [hg]; exact Nat.ne_of_gt (dP (g := qF) (o := .cells #[.int .i64 0, .int .i64 0, .slice none 0 0] 26 (0, 0)) (by (with_reducible repeat (first | refine ay ?_ _ | refine aC ?_ | refine az ?_ _)); exact nP.out)) : nX ≠ qF)); clear L6; clear mF; clear nP; clear HB; have L6 := bT; have mF := dD; have nP := dQ; have HB := eH; have kK := iw; have ami := iQ; have QB := jk; have rE := mQ; have zI := qA; have rD := uD; have zH := kP; clear bT dD dQ eH iw iQ jk mQ qA uD kP; clear hb hbox hg; have ah8 := zI.out; have ah6 := rE.out; have Pj := zH.out; have Pg := rD.out; have vJ : w8.cell? ⟨nX, 0, none⟩ = some (.int .i64 0) := (aj kK.out 0).trans rfl; have vI : w8.cell? ⟨nX, 1, none⟩ = some (.int .i64 0) := (aj kK.out 1).trans rfl; have vH : w8.cell? ⟨nX, 2, none⟩ = some (.slice none 0 0) := (aj kK.out 2).trans rfl; have vG := aA kK.out 0; have vF := aA kK.out 1; have vC := aA kK.out 2; obtain ⟨MB, LP, Ua⟩ := Kd.iq L6.out; subst Ua))
 go_loopg [6] k (fun kq v6 w' => ∃ (lC : Int) (iE : List Int) (yZ : Value), v6 = .int .i64 lC ∧ ah (dU.l0 kq lC uz zK iE = some (r1, r2, r3)) ∧ ah (kq ≤ k) ∧ ah (Kd.R (Kd.int .i64) 22 w' w.heap.size (fun _ => True) yZ iE) ∧ ah (w'.heap[qQ]? = some (.cells #[.int .i64 aQ, .int .i64 a_, (.slice cO aY.length cu)] 26 (0, 0))) ∧ ah (w'.heap[qF]? = some (.cells #[.int .i64 0, .int .i64 0, (.slice none 0 0)] 26 (0, 0))) ∧ ah (w'.heap[nX]? = some (.cells #[.int .i64 uz, .int .i64 zK, yZ] 26 (0, 0))) ∧ ah (Below w.heap.size w w'))
 case atStart => exact ⟨(0), (SL), (.slice MB SL.length LP), (by first | rfl | (simp; done) | (simp [*]; done)), H', ⟨Nat.le_refl _⟩, ⟨by (with_reducible repeat (first | apply Kd.bZ | apply Kd.bY | apply Kd.dA)); exact Kd.fQ (Kd.dM (p := ⟨nX, 2, none⟩) (Kd.dM (p := ⟨nX, 1, none⟩) (Kd.dM (p := ⟨nX, 0, none⟩) (Kd.iM L6.out kK.out (by decide)) (fun _ hk => hk.2) (.int .i64 uz)) (fun _ hk => hk.2) (.int .i64 zK)) (fun _ hk => hk.2) (.slice MB SL.length LP)) (fun _ hk => trivial)⟩, ⟨by (with_reducible repeat (first | refine ay ?_ _ | refine aC ?_ | refine az ?_ _)); refine dL ?_ rE.out _; (with_reducible repeat (first | refine ay ?_ _ | refine aC ?_ | refine az ?_ _)); refine dL ?_ rE.out _; (with_reducible repeat (first | refine ay ?_ _ | refine aC ?_ | refine az ?_ _)); refine dL ?_ rE.out _; (with_reducible repeat (first | refine ay ?_ _ | refine aC ?_ | refine az ?_ _)); exact mF.out⟩, ⟨by (with_reducible repeat (first | refine ay ?_ _ | refine aC ?_ | refine az ?_ _)); refine dL ?_ rD.out _; (with_reducible repeat (first | refine ay ?_ _ | refine aC ?_ | refine az ?_ _)); refine dL ?_ rD.out _; (with_reducible repeat (first | refine ay ?_ _ | refine aC ?_ | refine az ?_ _)); refine dL ?_ rD.out _; (with_reducible repeat (first | refine ay ?_ _ | refine aC ?_ | refine az ?_ _)); exact nP.out⟩, ⟨by (with_reducible repeat (first | refine ay ?_ _ | refine aC ?_ | refine az ?_ _)); refine bQ (cs := #[.int .i64 uz, .int .i64 zK, .slice none 0 0]) ?_ 2 _ rfl; (with_reducible repeat (first | refine ay ?_ _ | refine aC ?_ | refine az ?_ _)); refine bQ (cs := #[.int .i64 uz, .int .i64 0, .slice none 0 0]) ?_ 1 _ rfl; (with_reducible repeat (first | refine ay ?_ _ | refine aC ?_ | refine az ?_ _)); refine bQ (cs := #[.int .i64 0, .int .i64 0, .slice none 0 0]) ?_ 0 _ rfl; (with_reducible repeat (first | refine ay ?_ _ | refine aC ?_ | refine az ?_ _)); exact kK.out⟩, ⟨by repeat (first | (with_reducible first | exact HB.out | apply au | apply af | apply ak | refine aG ?_ xP.out | refine aG ?_ BQ.out | refine aG ?_ QB.out) | exact HB.out)⟩⟩
 case round =>
  clear H'
  try clear c1
  try clear c2
  try clear p2
  try clear c4
  try clear c5
  try clear c9
  try clear c10
  try clear vJ
  try clear vI
  try clear vH
  try clear tu
  try clear tq
  try clear uK
  try clear vG
  try clear vF
  try clear vC
  try clear sV
  try clear sU
  try clear uJ
  obtain ⟨lC, iE, yZ, rfl, HA, Aq, jL, mF, nP, kK, HB⟩ := hrel
  cases gk with
  | zero => exact absurd HA.out (by simp [dU.l0])
  | succ k1 =>
    have H := HA.out
    clear HA
    simp only [dU.l0] at H
    by_cases c13 : lC < uz
    · rw [if_pos c13] at H
      have tN : decide (lC < uz) = true := decide_eq_true c13
      clear c13
      obtain ⟨kN, Fq⟩ : ∃ j_ : Int, (wrap64 ((wrap64 (lC * uz)) + lC)) = j_ := ⟨_, rfl⟩
      replace H : (if 0 ≤ (kN) then (if (kN) < (iE.length : Int) then (if (rd iE (kN)) < 0 then (dU.l0 k1 (wrap64 (lC + 1)) uz zK (iE.set ((kN) : Int).toNat 0)) else (dU.l0 k1 (wrap64 (lC + 1)) uz zK iE)) else (none)) else (none)) = some (r1, r2, r3) := by first | (rw [Fq] at H; exact H) | (simp only [Fq] at H ⊢; exact H)
      have Ze : (IntKind.i64.wrap ((wrap64 (lC * uz)) + lC)) = kN := (aJ _).trans Fq
      by_cases c15 : 0 ≤ (kN)
      · rw [if_pos c15] at H
        have Gp : decide (0 ≤ (kN)) = true := decide_eq_true c15
        clear c15
        by_cases c16 : (kN) < (iE.length : Int)
        · rw [if_pos c16] at H
          have DX : decide ((kN) < (iE.length : Int)) = true := decide_eq_true c16
          clear c16
          by_cases c17 : (rd iE (kN)) < 0
          · rw [if_pos c17] at H
            have Us : decide ((rd iE (kN)) < 0) = true := decide_eq_true c17
            clear c17
            obtain ⟨YO, KR⟩ : ∃ y_ : List Int, y_ = (iE.set ((kN) : Int).toNat 0) := ⟨_, rfl⟩
            replace H : (dU.l0 k1 (wrap64 (lC + 1)) uz zK YO) = some (r1, r2, r3) := by first | (rw [KR]; with_reducible exact H) | (have Dt := (Option.bind_some _ _).symm.trans H; rw [KR]; with_reducible exact Dt) | (have Dt := (Option.bind_some _ _).symm.trans H; with_reducible exact Dt) | with_reducible exact H | (rw [KR]; exact H) | exact H
            have acz := ah.mk KR
            clear KR
            have H' := ah.mk H
            clear H
            have aa8 := zI.out
            have aa0 := rE.out
            have aa7 := zH.out
            have aaZ := rD.out
            have Xg : wr.cell? ⟨nX, 0, none⟩ = some (.int .i64 uz) := (aj kK.out 0).trans rfl
            have Xf : wr.cell? ⟨nX, 1, none⟩ = some (.int .i64 zK) := (aj kK.out 1).trans rfl
            have Xe : wr.cell? ⟨nX, 2, none⟩ = some (yZ) := (aj kK.out 2).trans rfl
            have Wh := aA kK.out 0
            have We := aA kK.out 1
            have V_ := aA kK.out 2
            obtain ⟨aoO, Zy, aiU⟩ := Kd.iq jL.out
            subst aiU
            have Nv : 0 ≤ ((kN) : Int) := of_decide_eq_true (by first | (with_reducible assumption) | assumption)
            have Na : (kN) < (iE.length : Int) := of_decide_eq_true (by first | (with_reducible assumption) | assumption)
            obtain ⟨Yv, e274, O9⟩ := Kd.jv (Kd.jB jL.out).2.2 (kN) Nv Na
            cases e274
            replace Nv := eq_true Nv
            replace Na := eq_true Na
            have Y3 : 0 ≤ ((kN) : Int) := of_decide_eq_true (by first | (with_reducible assumption) | assumption)
            have YY : ((kN) : Int) < ((iE.length : Int) : Int) := of_decide_eq_true (by first | (with_reducible assumption) | assumption)
            obtain ⟨JD, JL, Bv, TR, Zm, ai4, UM⟩ := Kd.JV jL.out (by omega)
            (first | cases Bv | (injection Bv with JI Zq Zr; (first | subst JI | (injection JI with JI; subst JI)); subst Zr; clear Zq))
            have aae := ah.mk TR
            have adb := ah.mk UM
            clear TR Zm UM
            (first | simp only [add_plain] at O9 | skip)
            obtain ⟨TF, TL⟩ := Kd.EN 0 jL.out ((kN) : Int) Y3 YY
            replace Y3 := eq_true Y3
            replace YY := eq_true YY
            have Ox := Kd.ZK jL.out ((kN) : Int) 0
            go_wp2_with (first | ((with_reducible refine Oc (t := 22) (p := 38) rfl ?_); refine Kq (t := 22) (p := 38) (v := ?ahG) (w1 := (wr.setCell ⟨JD, ((kN) : Int).toNat, none⟩ (.int .i64 0))) ?hg ?ho ?hn ?hr ?_; (case ho => rfl); (case hg => rfl); (case hn => rfl); (case hr => first | (go_simp; done) | (go_simp; rfl)); intro YP hw; have hg : wr.grownBy YP (some JD) := (by rw [hw]; exact Ox.2); have hp_ : Kd.R (Kd.int .i64) 22 YP w.heap.size (fun _ => True) (.slice (some ⟨JD, 0, none⟩) iE.length Zy) YO := (by rw [hw, acz.out]; exact Ox.1); clear Ox; have bT := ah.mk (hp_); have dD := ah.mk (ry (g := qQ) (o := .cells #[.int .i64 aQ, .int .i64 a_, .slice cO aY.length cu] 26 (0, 0)) (by (with_reducible repeat (first | refine ay ?_ _ | refine aC ?_ | refine az ?_ _)); exact mF.out) hg (Kd.wO jL.out mF.out (by decide))); have dQ := ah.mk (ry (g := qF) (o := .cells #[.int .i64 0, .int .i64 0, .slice none 0 0] 26 (0, 0)) (by (with_reducible repeat (first | refine ay ?_ _ | refine aC ?_ | refine az ?_ _)); exact nP.out) hg (Kd.wO jL.out nP.out (by decide))); have eH := ah.mk (ry (g := nX) (o := .cells #[.int .i64 uz, .int .i64 zK, .slice (some ⟨JD, 0, none⟩) iE.length Zy] 26 (0, 0)) (by (with_reducible repeat (first | refine ay ?_ _ | refine aC ?_ | refine az ?_ _)); exact kK.out) hg (Kd.wO jL.out kK.out (by decide))); have iw := ah.mk ((by rw [hw]; exact aG (HB.out) aae.out : Below w.heap.size w YP)); clear jL; clear mF; clear nP; clear kK; clear HB; have jL := bT; have mF := dD; have nP := dQ; have kK := eH; have HB := iw; clear bT dD dQ eH iw; clear hg hw hp_))
            go_roundg k1
            case measure => have := Aq.out; omega
            case rel => exact ⟨(wrap64 (lC + 1)), (YO), (.slice (some ⟨JD, 0, none⟩) iE.length Zy), (by first | rfl | (simp; done) | (simp [*]; done)), H', ⟨by have := Aq.out; omega⟩, ⟨by (with_reducible repeat (first | apply Kd.bZ | apply Kd.bY | apply Kd.dA)); exact jL.out⟩, ⟨by (with_reducible repeat (first | refine ay ?_ _ | refine aC ?_ | refine az ?_ _)); exact mF.out⟩, ⟨by (with_reducible repeat (first | refine ay ?_ _ | refine aC ?_ | refine az ?_ _)); exact nP.out⟩, ⟨by (with_reducible repeat (first | refine ay ?_ _ | refine aC ?_ | refine az ?_ _)); exact kK.out⟩, ⟨by repeat (first | (with_reducible first | exact HB.out | apply au | apply af | apply ak | refine aG ?_ xP.out | refine aG ?_ BQ.out | refine aG ?_ QB.out) | exact HB.out)⟩⟩
          · rw [if_neg c17] at H
            have Us : decide ((rd iE (kN)) < 0) = false := decide_eq_false c17
            clear c17
            have H' := ah.mk H
            clear H
            have Yh := zI.out
            have Ye := rE.out
            have aa5 := zH.out
            have aaX := rD.out
            have PZ : wr.cell? ⟨nX, 0, none⟩ = some (.int .i64 uz) := (aj kK.out 0).trans rfl
            have PY : wr.cell? ⟨nX, 1, none⟩ = some (.int .i64 zK) := (aj kK.out 1).trans rfl
            have PX : wr.cell? ⟨nX, 2, none⟩ = some (yZ) := (aj kK.out 2).trans rfl
            have Pz := aA kK.out 0
            have Py := aA kK.out 1
            have Px := aA kK.out 2
            obtain ⟨aoN, ai3, aiT⟩ := Kd.iq jL.out
            subst aiT
            have Nv : 0 ≤ ((kN) : Int) := of_decide_eq_true (by first | (with_reducible assumption) | assumption)
            have Na : (kN) < (iE.length : Int) := of_decide_eq_true (by first | (with_reducible assumption) | assumption)
            obtain ⟨Yv, e274, O9⟩ := Kd.jv (Kd.jB jL.out).2.2 (kN) Nv Na
            cases e274
            replace Nv := eq_true Nv
            replace Na := eq_true Na
            go_wp2
            go_roundg k1
            case measure => have := Aq.out; omega
            case rel => exact ⟨(wrap64 (lC + 1)), (iE), (.slice (some Yv) iE.length ai3), (by first | rfl | (simp; done) | (simp [*]; done)), H', ⟨by have := Aq.out; omega⟩, ⟨by (with_reducible repeat (first | apply Kd.bZ | apply Kd.bY | apply Kd.dA)); exact jL.out⟩, ⟨by (with_reducible repeat (first | refine ay ?_ _ | refine aC ?_ | refine az ?_ _)); exact mF.out⟩, ⟨by (with_reducible repeat (first | refine ay ?_ _ | refine aC ?_ | refine az ?_ _)); exact nP.out⟩, ⟨by (with_reducible repeat (first | refine ay ?_ _ | refine aC ?_ | refine az ?_ _)); exact kK.out⟩, ⟨by repeat (first | (with_reducible first | exact HB.out | apply au | apply af | apply ak | refine aG ?_ xP.out | refine aG ?_ BQ.out | refine aG ?_ QB.out) | exact HB.out)⟩⟩
        · rw [if_neg c16] at H
          exact absurd H (by simp)
      · rw [if_neg c15] at H
        exact absurd H (by simp)
    · rw [if_neg c13] at H
      have tN : decide (lC < uz) = false := decide_eq_false c13
      clear c13
      simp only [Option.some.injEq, Prod.mk.injEq] at H
      obtain ⟨rfl, rfl, rfl⟩ := H
      have aa4 := zI.out
      have aaW := rE.out
      have akE := zH.out
      have akn := rD.out
      have WT : wr.cell? ⟨nX, 0, none⟩ = some (.int .i64 uz) := (aj kK.out 0).trans rfl
      have WS : wr.cell? ⟨nX, 1, none⟩ = some (.int .i64 zK) := (aj kK.out 1).trans rfl
      have WR : wr.cell? ⟨nX, 2, none⟩ = some (yZ) := (aj kK.out 2).trans rfl
      have VU := aA kK.out 0
      have VT := aA kK.out 1
      have VS := aA kK.out 2
      have akD := Ii.out
      have akm := Ij.out
      have agY : wr.cell? ⟨qF, 0, none⟩ = some (.int .i64 0) := (aj nP.out 0).trans rfl
      have agX : wr.cell? ⟨qF, 1, none⟩ = some (.int .i64 0) := (aj nP.out 1).trans rfl
      have agW : wr.cell? ⟨qF, 2, none⟩ = some (.slice none 0 0) := (aj nP.out 2).trans rfl
      have afG := aA nP.out 0
      have afF := aA nP.out 1
      have afE := aA nP.out 2
      obtain ⟨adk, aby, aiR⟩ := Kd.iq jL.out
      subst aiR
      go_wp2
      refine bodyPost_ret (results_cell_row rfl _ _ qF 26 #[.int .i64 uz, .int .i64 zK, .slice adk iE.length aby] (0, 0) _ rfl (by (with_reducible repeat (first | refine ay ?_ _ | refine aC ?_ | refine az ?_ _)); refine bQ (cs := #[.int .i64 uz, .int .i64 zK, .slice none 0 0]) ?_ 2 _ rfl; (with_reducible repeat (first | refine ay ?_ _ | refine aC ?_ | refine az ?_ _)); refine bQ (cs := #[.int .i64 uz, .int .i64 0, .slice none 0 0]) ?_ 1 _ rfl; (with_reducible repeat (first | refine ay ?_ _ | refine aC ?_ | refine az ?_ _)); refine bQ (cs := #[.int .i64 0, .int .i64 0, .slice none 0 0]) ?_ 0 _ rfl; (with_reducible repeat (first | refine ay ?_ _ | refine aC ?_ | refine az ?_ _)); exact nP.out) Try.underlying26 rfl (by kernel_rfl)) rfl ?_
      exact ⟨_, by first | rfl | (simp [aU, aT] <;> rfl) | (simp [*, aU, aT] <;> rfl), by (with_reducible repeat (first | apply Kd.bZ | apply Kd.bY | apply Kd.dA)); exact Kd.fQ (Kd.dM (p := ⟨qF, 2, none⟩) (Kd.dM (p := ⟨qF, 1, none⟩) (Kd.dM (p := ⟨qF, 0, none⟩) (Kd.iM jL.out nP.out (by decide)) (fun _ hk => hk.2) (.int .i64 uz)) (fun _ hk => hk.2) (.int .i64 zK)) (fun _ hk => hk.2) (.slice adk iE.length aby)) (fun _ hk => trivial), by repeat (first | (with_reducible first | exact HB.out | apply au | apply af | apply ak | refine aG ?_ xP.out | refine aG ?_ BQ.out | refine aG ?_ QB.out) | exact HB.out)⟩
end Go.Proofs.Ytninmcmajbfccaa.PQ

namespace Go.Proofs.Ytninmcmajbfccaa.PR
open Go.RowKit Go.Proofs.Ytninmcmajbfccaa.PQ Go.Proofs.aH.bK Go.Proofs.aH.dG Go.Proofs.aH.dJ
attribute [local go_sem] jS jQ kT kS ji jh jR jP
set_option linter.unusedVariables false
set_option linter.unusedSimpArgs false
def TV : Option Int → Value
 | none => .nilIface
 | some c => .iface 0 (.int .i64 c)
theorem aU : TV none = .nilIface := rfl
theorem aT (c : Int) : TV (some c) = .iface 0 (.int .i64 c) := rfl
end Go.Proofs.Ytninmcmajbfccaa.PR

