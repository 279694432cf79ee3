import Derived.Test.YtninmcmajbfccaaProg
import Derived.Below
import Derived.Deep.Draws
import Derived.Deep.AppendLies
import Derived.Maps.AppendAt
import Derived.OwnWalk
import Derived.Laws.BytesArg
import Derived.Laws.MakeOwn
import Derived.Laws.OwnMore
import Derived.Deep.OwnRows
import Derived.Tactics
import Derived.Lib.ConvBytes
import Derived.Laws.Slices
import Derived.WalkKit
import Derived.KernelRfl
import Derived.RowKit3
import Derived.Deep.LoopGhost
import Derived.Deep.QuietTactic
import Derived.BigQuiet
import Derived.WideLaws
import Derived.Deep.DeepCutAuto
import Derived.Deep.CutBlock
import Derived.Deep.RegionHeld3
import Derived.Laws.Rows
import Derived.Lib.AppendStr
import Derived.ArgAppend
import Derived.Laws.IdiomCopy
import Derived.OrdersHeld
import Derived.Laws.BitsLemmas
import Derived.RowKit
import Derived.Test.YtninmcmajbfccaaY0
import Derived.Test.YtninmcmajbfccaaY1
/- Joined and thinned by a program of this session's own (wip/pack2.py) out of its texts (wip/ of its repo); parts were laid by its own program (wip/print-patch.py over the kit's print) out of the translation; Lean checks all. -/
set_option maxRecDepth 100000
set_option maxHeartbeats 8000000
namespace Go.Proofs.Ytninmcmajbfccaa.PQ
open Go.RowKit Go.Proofs.aH.bK Go.Proofs.aH.dG Go.Proofs.aH.dJ
attribute [local go_sem] jS jQ kT kS ji jh jR jP
set_option linter.unusedVariables false
set_option linter.unusedSimpArgs false
def TV : Option Int → Value
 | none => .nilIface
 | some c => .iface 0 (.int .i64 c)
theorem aU : TV none = .nilIface := rfl
theorem aT (c : Int) : TV (some c) = .iface 0 (.int .i64 c) := rfl
theorem info22 : (Try.prog.info? 22).map (fun i => (i.zero, i.size, i.bytes)) = some (some (.int .i64 0), 1, 8) := by kernel_rfl
end Go.Proofs.Ytninmcmajbfccaa.PQ

namespace Go.Proofs.Ytninmcmajbfccaa.PQ
open Go.RowKit Go.Proofs.aH.bK Go.Proofs.aH.dG Go.Proofs.aH.dJ
attribute [local go_sem] jS jQ kT kS ji jh jR jP
set_option linter.unusedVariables false
set_option linter.unusedSimpArgs false
mutual
def bU.j0 : Nat → Bool → Int → Int → List Int → Int → Int → List Int → Option (Bool)
 | 0, _, _, _, _, _, _, _ => none
 | k + 1, x26, IP, IM, AL, IL, IK, AA => if x26 = true then (some false) else (bU.l0 k 0 IP IM AL IL IK AA)
def bU.l0 : Nat → Int → Int → Int → List Int → Int → Int → List Int → Option (Bool)
 | 0, _, _, _, _, _, _, _ => none
 | k + 1, x5, IP, IM, AL, IL, IK, AA => if x5 < (AL.length : Int) then (if 0 ≤ x5 then (if x5 < (AA.length : Int) then (if (rd AL x5) = (rd AA x5) then (bU.l0 k (wrap64 (x5 + 1)) IP IM AL IL IK AA) else (some false)) else (none)) else (none)) else (some true)
end
def bU.f (k : Nat) (aQ : Int) (a_ : Int) (aY : List Int) (dS : Int) (dZ : Int) (dI : List Int) : Option (Bool) := if aQ = dS then (if a_ = dZ then (bU.j0 k ((aY.length : Int) != (dI.length : Int)) aQ a_ aY dS dZ dI) else (bU.j0 k true aQ a_ aY dS dZ dI)) else (bU.j0 k true aQ a_ aY dS dZ dI)
theorem bU.calls (k : Nat) (aQ : Int) (a_ : Int) (cO : Option Addr) (cu : Nat) (aY : List Int) (dS : Int) (dZ : Int) (gY : Option Addr) (g_ : Nat) (dI : List Int) (r : Bool) (w : World) (jl : Kd.C (Kd.int .i64) w cO aY.length aY) (jD : aY.length ≤ cu) (oM : Kd.C (Kd.int .i64) w gY dI.length dI) (o9 : dI.length ≤ g_) (h : bU.f k aQ a_ aY dS dZ dI = some r) :
 Calls Try.prog 19 #[.agg #[.int .i64 aQ, .int .i64 a_, .slice cO aY.length cu], .agg #[.int .i64 dS, .int .i64 dZ, .slice gY dI.length g_]] w fun e w' => e = .returned (.bool r) ∧ Below w.heap.size w w' := by
 have yz := Try.underlying26
 have kC := ah.mk jl
 have lM := ah.mk jD
 clear jl jD
 have tV := ah.mk oM
 have vW := ah.mk o9
 clear oM o9
 have HB := ah.mk (Below.refl w.heap.size w)
 have H : (if aQ = dS then (if a_ = dZ then (bU.j0 k ((aY.length : Int) != (dI.length : Int)) aQ a_ aY dS dZ dI) else (bU.j0 k true aQ a_ aY dS dZ dI)) else (bU.j0 k true aQ a_ aY dS dZ dI)) = some r := h
 clear h
 have HC3 := ah.mk H
 clear H
 go_enter Try.func19, Try.ntmps19
 go_upto_region 1 with (first | ((with_reducible refine dY (N := 2) rfl ?_); (try (refine mX (by rfl) ?_; dsimp only)); refine dH ?hg (N := 2) ?hd (cs := #[.int .i64 aQ, .int .i64 a_, .slice cO aY.length cu]) (t := 26) ?hr ?_; (case hd => rfl); (case hg => rfl); (case hr => first | (go_simp; done) | (go_simp; rfl)); intro jm hg w4 hbox hb; have bT := ah.mk (aI (by repeat (first | (with_reducible first | exact HB.out | apply au | apply af | apply ak) | exact HB.out)) hb); have dD := ah.mk (hbox); have dQ := ah.mk ((by rw [hg]; exact (aW (by repeat (first | (with_reducible first | exact HB.out | apply au | apply af | apply ak) | exact HB.out))) : w.heap.size ≤ jm)); have eH := ah.mk ((by rw [hg]; exact (aW (by repeat (first | (with_reducible first | exact HB.out | apply au | apply af | apply ak) | exact HB.out))) : w.heap.size ≤ jm)); clear HB; have HB := bT; have gV := dD; have YJ := dQ; have qN := eH; clear bT dD dQ eH; clear hb hbox hg) | ((with_reducible refine dY (N := 3) rfl ?_); (try (refine mX (by rfl) ?_; dsimp only)); refine dH ?hg (N := 3) ?hd (cs := #[.int .i64 dS, .int .i64 dZ, .slice gY dI.length g_]) (t := 26) ?hr ?_; (case hd => rfl); (case hg => rfl); (case hr => first | (go_simp; done) | (go_simp; rfl)); intro kQ hg w5 hbox hb; have bT := ah.mk (bg (g := jm) (o := .cells #[.int .i64 aQ, .int .i64 a_, .slice cO aY.length cu] 26 (0, 0)) (by (with_reducible repeat (first | refine ay ?_ _ | refine aC ?_ | refine az ?_ _)); exact gV.out) hb); have dD := ah.mk (aI (by repeat (first | (with_reducible first | exact HB.out | apply au | apply af | apply ak | refine aG ?_ qN.out) | exact HB.out)) hb); have dQ := ah.mk (hbox); have eH := ah.mk ((by rw [hg]; exact (aW (by repeat (first | (with_reducible first | exact HB.out | apply au | apply af | apply ak | refine aG ?_ qN.out) | exact HB.out))) : w.heap.size ≤ kQ)); have iw := ah.mk ((by rw [hg]; exact (aW (by repeat (first | (with_reducible first | exact HB.out | apply au | apply af | apply ak | refine aG ?_ qN.out) | exact HB.out))) : w.heap.size ≤ kQ)); have iQ := ah.mk ((by rw [hg]; exact Nat.ne_of_lt (dP (g := jm) (o := .cells #[.int .i64 aQ, .int .i64 a_, .slice cO aY.length cu] 26 (0, 0)) (by (with_reducible repeat (first | refine ay ?_ _ | refine aC ?_ | refine az ?_ _)); exact gV.out)) : jm ≠ kQ)); have jk := ah.mk ((by rw [hg]; exact Nat.ne_of_gt (dP (g := jm) (o := .cells #[.int .i64 aQ, .int .i64 a_, .slice cO aY.length cu] 26 (0, 0)) (by (with_reducible repeat (first | refine ay ?_ _ | refine aC ?_ | refine az ?_ _)); exact gV.out)) : kQ ≠ jm)); clear gV; clear HB; have gV := bT; have HB := dD; have jH := dQ; have YI := eH; have zX := iw; have qj := iQ; have qi := jk; clear bT dD dQ eH iw iQ jk; clear hb hbox hg))
 repeat (go_quiet (first | ((with_reducible refine dY (N := 2) rfl ?_); (try (refine mX (by rfl) ?_; dsimp only)); refine dH ?hg (N := 2) ?hd (cs := #[.int .i64 aQ, .int .i64 a_, .slice cO aY.length cu]) (t := 26) ?hr ?_; (case hd => rfl); (case hg => rfl); (case hr => first | (go_simp; done) | (go_simp; rfl)); intro jm hg w4 hbox hb; have bT := ah.mk (aI (by repeat (first | (with_reducible first | exact HB.out | apply au | apply af | apply ak) | exact HB.out)) hb); have dD := ah.mk (hbox); have dQ := ah.mk ((by rw [hg]; exact (aW (by repeat (first | (with_reducible first | exact HB.out | apply au | apply af | apply ak) | exact HB.out))) : w.heap.size ≤ jm)); have eH := ah.mk ((by rw [hg]; exact (aW (by repeat (first | (with_reducible first | exact HB.out | apply au | apply af | apply ak) | exact HB.out))) : w.heap.size ≤ jm)); clear HB; have HB := bT; have gV := dD; have YJ := dQ; have qN := eH; clear bT dD dQ eH; clear hb hbox hg) | ((with_reducible refine dY (N := 3) rfl ?_); (try (refine mX (by rfl) ?_; dsimp only)); refine dH ?hg (N := 3) ?hd (cs := #[.int .i64 dS, .int .i64 dZ, .slice gY dI.length g_]) (t := 26) ?hr ?_; (case hd => rfl); (case hg => rfl); (case hr => first | (go_simp; done) | (go_simp; rfl)); intro kQ hg w5 hbox hb; have bT := ah.mk (bg (g := jm) (o := .cells #[.int .i64 aQ, .int .i64 a_, .slice cO aY.length cu] 26 (0, 0)) (by (with_reducible repeat (first | refine ay ?_ _ | refine aC ?_ | refine az ?_ _)); exact gV.out) hb); have dD := ah.mk (aI (by repeat (first | (with_reducible first | exact HB.out | apply au | apply af | apply ak | refine aG ?_ qN.out) | exact HB.out)) hb); have dQ := ah.mk (hbox); have eH := ah.mk ((by rw [hg]; exact (aW (by repeat (first | (with_reducible first | exact HB.out | apply au | apply af | apply ak | refine aG ?_ qN.out) | exact HB.out))) : w.heap.size ≤ kQ)); have iw := ah.mk ((by rw [hg]; exact (aW (by repeat (first | (with_reducible first | exact HB.out | apply au | apply af | apply ak | refine aG ?_ qN.out) | exact HB.out))) : w.heap.size ≤ kQ)); have iQ := ah.mk ((by rw [hg]; exact Nat.ne_of_lt (dP (g := jm) (o := .cells #[.int .i64 aQ, .int .i64 a_, .slice cO aY.length cu] 26 (0, 0)) (by (with_reducible repeat (first | refine ay ?_ _ | refine aC ?_ | refine az ?_ _)); exact gV.out)) : jm ≠ kQ)); have jk := ah.mk ((by rw [hg]; exact Nat.ne_of_gt (dP (g := jm) (o := .cells #[.int .i64 aQ, .int .i64 a_, .slice cO aY.length cu] 26 (0, 0)) (by (with_reducible repeat (first | refine ay ?_ _ | refine aC ?_ | refine az ?_ _)); exact gV.out)) : kQ ≠ jm)); clear gV; clear HB; have gV := bT; have HB := dD; have jH := dQ; have YI := eH; have zX := iw; have qj := iQ; have qi := jk; clear bT dD dQ eH iw iQ jk; clear hb hbox hg)); go_upto_region 1 with (first | ((with_reducible refine dY (N := 2) rfl ?_); (try (refine mX (by rfl) ?_; dsimp only)); refine dH ?hg (N := 2) ?hd (cs := #[.int .i64 aQ, .int .i64 a_, .slice cO aY.length cu]) (t := 26) ?hr ?_; (case hd => rfl); (case hg => rfl); (case hr => first | (go_simp; done) | (go_simp; rfl)); intro jm hg w4 hbox hb; have bT := ah.mk (aI (by repeat (first | (with_reducible first | exact HB.out | apply au | apply af | apply ak) | exact HB.out)) hb); have dD := ah.mk (hbox); have dQ := ah.mk ((by rw [hg]; exact (aW (by repeat (first | (with_reducible first | exact HB.out | apply au | apply af | apply ak) | exact HB.out))) : w.heap.size ≤ jm)); have eH := ah.mk ((by rw [hg]; exact (aW (by repeat (first | (with_reducible first | exact HB.out | apply au | apply af | apply ak) | exact HB.out))) : w.heap.size ≤ jm)); clear HB; have HB := bT; have gV := dD; have YJ := dQ; have qN := eH; clear bT dD dQ eH; clear hb hbox hg) | ((with_reducible refine dY (N := 3) rfl ?_); (try (refine mX (by rfl) ?_; dsimp only)); refine dH ?hg (N := 3) ?hd (cs := #[.int .i64 dS, .int .i64 dZ, .slice gY dI.length g_]) (t := 26) ?hr ?_; (case hd => rfl); (case hg => rfl); (case hr => first | (go_simp; done) | (go_simp; rfl)); intro kQ hg w5 hbox hb; have bT := ah.mk (bg (g := jm) (o := .cells #[.int .i64 aQ, .int .i64 a_, .slice cO aY.length cu] 26 (0, 0)) (by (with_reducible repeat (first | refine ay ?_ _ | refine aC ?_ | refine az ?_ _)); exact gV.out) hb); have dD := ah.mk (aI (by repeat (first | (with_reducible first | exact HB.out | apply au | apply af | apply ak | refine aG ?_ qN.out) | exact HB.out)) hb); have dQ := ah.mk (hbox); have eH := ah.mk ((by rw [hg]; exact (aW (by repeat (first | (with_reducible first | exact HB.out | apply au | apply af | apply ak | refine aG ?_ qN.out) | exact HB.out))) : w.heap.size ≤ kQ)); have iw := ah.mk ((by rw [hg]; exact (aW (by repeat (first | (with_reducible first | exact HB.out | apply au | apply af | apply ak | refine aG ?_ qN.out) | exact HB.out))) : w.heap.size ≤ kQ)); have iQ := ah.mk ((by rw [hg]; exact Nat.ne_of_lt (dP (g := jm) (o := .cells #[.int .i64 aQ, .int .i64 a_, .slice cO aY.length cu] 26 (0, 0)) (by (with_reducible repeat (first | refine ay ?_ _ | refine aC ?_ | refine az ?_ _)); exact gV.out)) : jm ≠ kQ)); have jk := ah.mk ((by rw [hg]; exact Nat.ne_of_gt (dP (g := jm) (o := .cells #[.int .i64 aQ, .int .i64 a_, .slice cO aY.length cu] 26 (0, 0)) (by (with_reducible repeat (first | refine ay ?_ _ | refine aC ?_ | refine az ?_ _)); exact gV.out)) : kQ ≠ jm)); clear gV; clear HB; have gV := bT; have HB := dD; have jH := dQ; have YI := eH; have zX := iw; have qj := iQ; have qi := jk; clear bT dD dQ eH iw iQ jk; clear hb hbox hg)))
 (try simp only [Act.put, List.setIfInBounds_toArray, List.set_cons_zero, List.set_cons_succ])
 go_cut [26] (fun v26 wc => ∃ (kq : Nat) (OI : Bool), v26 = .bool OI ∧ ah (bU.j0 kq OI aQ a_ aY dS dZ dI = some r) ∧ ah (kq ≤ k) ∧ ah (wc.heap[jm]? = some (.cells #[.int .i64 aQ, .int .i64 a_, (.slice cO aY.length cu)] 26 (0, 0))) ∧ ah (wc.heap[kQ]? = some (.cells #[.int .i64 dS, .int .i64 dZ, (.slice gY dI.length g_)] 26 (0, 0))) ∧ ah (Below w.heap.size w wc))
 case first =>
  have H := HC3.out
  clear HC3
  by_cases c6 : aQ = dS
  · rw [if_pos c6] at H
    have wC : (aQ == dS) = true := beq_iff_eq.mpr c6
    have Hl : (aQ != dS) = false := bne_eq_false_iff_eq.mpr c6
    clear c6
    (first | rw [wC] | (simp only [aJ, aK]; rw [wC]) | skip)
    by_cases c7 : a_ = dZ
    · rw [if_pos c7] at H
      have yG : (a_ == dZ) = true := beq_iff_eq.mpr c7
      have LQ : (a_ != dZ) = false := bne_eq_false_iff_eq.mpr c7
      clear c7
      have H' := ah.mk H
      clear H
      have VB := qj.out
      have VA := qi.out
      have qZ : w5.cell? ⟨jm, 0, none⟩ = some (.int .i64 aQ) := (aj gV.out 0).trans rfl
      have sZ : w5.cell? ⟨jm, 1, none⟩ = some (.int .i64 a_) := (aj gV.out 1).trans rfl
      have sW : w5.cell? ⟨jm, 2, none⟩ = some (.slice cO aY.length cu) := (aj gV.out 2).trans rfl
      have qY := aA gV.out 0
      have sS := aA gV.out 1
      have sQ := aA gV.out 2
      have pX : w5.cell? ⟨kQ, 0, none⟩ = some (.int .i64 dS) := (aj jH.out 0).trans rfl
      have pW : w5.cell? ⟨kQ, 1, none⟩ = some (.int .i64 dZ) := (aj jH.out 1).trans rfl
      have pV : w5.cell? ⟨kQ, 2, none⟩ = some (.slice gY dI.length g_) := (aj jH.out 2).trans rfl
      have pU := aA jH.out 0
      have pR := aA jH.out 1
      have pO := aA jH.out 2
      go_wp2
      repeat (go_quiet (fail); try go_wp2)
      go_meet
      case rel => exact ⟨_, (((aY.length : Int) != (dI.length : Int))), (by first | rfl | (simp; done) | (simp [*]; done)), H', ⟨by first | omega | exact Nat.le_refl _⟩, ⟨by (with_reducible repeat (first | refine ay ?_ _ | refine aC ?_ | refine az ?_ _)); exact gV.out⟩, ⟨by (with_reducible repeat (first | refine ay ?_ _ | refine aC ?_ | refine az ?_ _)); exact jH.out⟩, ⟨by repeat (first | (with_reducible first | exact HB.out | apply au | apply af | apply ak | refine aG ?_ qN.out | refine aG ?_ zX.out) | exact HB.out)⟩⟩
    · rw [if_neg c7] at H
      have yG : (a_ == dZ) = false := beq_eq_false_iff_ne.mpr c7
      have LQ : (a_ != dZ) = true := bne_iff_ne.mpr c7
      have H' := ah.mk H
      clear H
      have Ph := qj.out
      have Pe := qi.out
      have nN : w5.cell? ⟨jm, 0, none⟩ = some (.int .i64 aQ) := (aj gV.out 0).trans rfl
      have nM : w5.cell? ⟨jm, 1, none⟩ = some (.int .i64 a_) := (aj gV.out 1).trans rfl
      have nK : w5.cell? ⟨jm, 2, none⟩ = some (.slice cO aY.length cu) := (aj gV.out 2).trans rfl
      have nJ := aA gV.out 0
      have nI := aA gV.out 1
      have nH := aA gV.out 2
      have EJ : w5.cell? ⟨kQ, 0, none⟩ = some (.int .i64 dS) := (aj jH.out 0).trans rfl
      have EI : w5.cell? ⟨kQ, 1, none⟩ = some (.int .i64 dZ) := (aj jH.out 1).trans rfl
      have EH : w5.cell? ⟨kQ, 2, none⟩ = some (.slice gY dI.length g_) := (aj jH.out 2).trans rfl
      have ED := aA jH.out 0
      have EC := aA jH.out 1
      have Ez := aA jH.out 2
      go_wp2
      repeat (go_quiet (fail); try go_wp2)
      go_meet
      case rel => exact ⟨_, (true), (by first | rfl | (simp; done) | (simp [*]; done)), H', ⟨by first | omega | exact Nat.le_refl _⟩, ⟨by (with_reducible repeat (first | refine ay ?_ _ | refine aC ?_ | refine az ?_ _)); exact gV.out⟩, ⟨by (with_reducible repeat (first | refine ay ?_ _ | refine aC ?_ | refine az ?_ _)); exact jH.out⟩, ⟨by repeat (first | (with_reducible first | exact HB.out | apply au | apply af | apply ak | refine aG ?_ qN.out | refine aG ?_ zX.out) | exact HB.out)⟩⟩
  · rw [if_neg c6] at H
    have wC : (aQ == dS) = false := beq_eq_false_iff_ne.mpr c6
    have Hl : (aQ != dS) = true := bne_iff_ne.mpr c6
    (first | rw [wC] | (simp only [aJ, aK]; rw [wC]) | skip)
    have H' := ah.mk H
    clear H
    have akK := qj.out
    have akt := qi.out
    have zC : w5.cell? ⟨jm, 0, none⟩ = some (.int .i64 aQ) := (aj gV.out 0).trans rfl
    have zB : w5.cell? ⟨jm, 1, none⟩ = some (.int .i64 a_) := (aj gV.out 1).trans rfl
    have zA : w5.cell? ⟨jm, 2, none⟩ = some (.slice cO aY.length cu) := (aj gV.out 2).trans rfl
    have zo := aA gV.out 0
    have zn := aA gV.out 1
    have zl := aA gV.out 2
    have zy : w5.cell? ⟨kQ, 0, none⟩ = some (.int .i64 dS) := (aj jH.out 0).trans rfl
    have zx : w5.cell? ⟨kQ, 1, none⟩ = some (.int .i64 dZ) := (aj jH.out 1).trans rfl
    have zq : w5.cell? ⟨kQ, 2, none⟩ = some (.slice gY dI.length g_) := (aj jH.out 2).trans rfl
    have zk := aA jH.out 0
    have zi := aA jH.out 1
    have zh := aA jH.out 2
    go_wp2
    repeat (go_quiet (fail); try go_wp2)
    go_meet
    case rel => exact ⟨_, (true), (by first | rfl | (simp; done) | (simp [*]; done)), H', ⟨by first | omega | exact Nat.le_refl _⟩, ⟨by (with_reducible repeat (first | refine ay ?_ _ | refine aC ?_ | refine az ?_ _)); exact gV.out⟩, ⟨by (with_reducible repeat (first | refine ay ?_ _ | refine aC ?_ | refine az ?_ _)); exact jH.out⟩, ⟨by repeat (first | (with_reducible first | exact HB.out | apply au | apply af | apply ak | refine aG ?_ qN.out | refine aG ?_ zX.out) | exact HB.out)⟩⟩
 case rest =>
  clear HC3
  try clear c1
  try clear p2
  try clear c6
  try clear wC
  try clear Hl
  try clear c7
  try clear yG
  try clear LQ
  try clear c8
  try clear c11
  try clear c14
  try clear pX
  try clear pW
  try clear pV
  try clear nN
  try clear nM
  try clear nK
  try clear EJ
  try clear EI
  try clear EH
  try clear zC
  try clear zB
  try clear zA
  try clear zy
  try clear zx
  try clear zq
  try clear qZ
  try clear sZ
  try clear sW
  try clear pU
  try clear pR
  try clear pO
  try clear nJ
  try clear nI
  try clear nH
  try clear ED
  try clear EC
  try clear Ez
  try clear zo
  try clear zn
  try clear zl
  try clear zk
  try clear zi
  try clear zh
  try clear qY
  try clear sS
  try clear sQ
  obtain ⟨kq, OI, rfl, HA, HJ2, gV, jH, HB⟩ := hcut
  cases kq with
  | zero => exact absurd HA.out (by simp [bU.j0])
  | succ kj2 =>
    have H := HA.out
    clear HA
    simp only [bU.j0] at H
    by_cases c17 : OI = true
    · subst c17
      rw [if_pos rfl] at H
      obtain rfl := Option.some.inj H
      go_wp2
      repeat (go_quiet (fail); try go_wp2)
      go_ret
      exact ⟨by first | rfl | (simp [aU, aT] <;> rfl) | (simp [*, aU, aT] <;> rfl), by repeat (first | (with_reducible first | exact HB.out | apply au | apply af | apply ak | refine aG ?_ qN.out | refine aG ?_ zX.out) | exact HB.out)⟩
    · replace c17 := Bool.eq_false_iff.mpr c17
      subst c17
      have H1 : (bU.l0 kj2 0 aQ a_ aY dS dZ dI) = some r := by rw [if_neg (show ¬ (false = true) by decide)] at H; exact H
      clear H
      have H := H1
      clear H1
      have H' := ah.mk H
      clear H
      go_wp2
      repeat (go_quiet (fail); try go_wp2)
      go_loopg [5] kj2 (fun kq v5 w' => ∃ (gK : Int), v5 = .int .i64 gK ∧ ah (bU.l0 kq gK aQ a_ aY dS dZ dI = some r) ∧ ah (kq ≤ kj2) ∧ ah (w'.heap[jm]? = some (.cells #[.int .i64 aQ, .int .i64 a_, (.slice cO aY.length cu)] 26 (0, 0))) ∧ ah (w'.heap[kQ]? = some (.cells #[.int .i64 dS, .int .i64 dZ, (.slice gY dI.length g_)] 26 (0, 0))) ∧ ah (Below w.heap.size w w'))
      case atStart => exact ⟨(0), (by first | rfl | (simp; done) | (simp [*]; done)), H', ⟨Nat.le_refl _⟩, ⟨by (with_reducible repeat (first | refine ay ?_ _ | refine aC ?_ | refine az ?_ _)); exact gV.out⟩, ⟨by (with_reducible repeat (first | refine ay ?_ _ | refine aC ?_ | refine az ?_ _)); exact jH.out⟩, ⟨by repeat (first | (with_reducible first | exact HB.out | apply au | apply af | apply ak | refine aG ?_ qN.out | refine aG ?_ zX.out) | exact HB.out)⟩⟩
      case round =>
       clear H'
       try clear c1
       try clear p2
       try clear c6
       try clear wC
       try clear Hl
       try clear c7
       try clear yG
       try clear LQ
       try clear c8
       try clear c11
       try clear c14
       try clear c17
       try clear pX
       try clear pW
       try clear pV
       try clear nN
       try clear nM
       try clear nK
       try clear EJ
       try clear EI
       try clear EH
       try clear zC
       try clear zB
       try clear zA
       try clear zy
       try clear zx
       try clear zq
       try clear qZ
       try clear sZ
       try clear sW
       try clear pU
       try clear pR
       try clear pO
       try clear nJ
       try clear nI
       try clear nH
       try clear ED
       try clear EC
       try clear Ez
       try clear zo
       try clear zn
       try clear zl
       try clear zk
       try clear zi
       try clear zh
       try clear qY
       try clear sS
       try clear sQ
       try clear p2
       obtain ⟨gK, rfl, HA, yN, gV, jH, HB⟩ := hrel
       cases gk with
       | zero => exact absurd HA.out (by simp [bU.l0])
       | succ k2 =>
         have H := HA.out
         clear HA
         simp only [bU.l0] at H
         by_cases c18 : gK < (aY.length : Int)
         · rw [if_pos c18] at H
           have BI : decide (gK < (aY.length : Int)) = true := decide_eq_true c18
           clear c18
           by_cases c19 : 0 ≤ gK
           · rw [if_pos c19] at H
             have LV : decide (0 ≤ gK) = true := decide_eq_true c19
             clear c19
             by_cases c20 : gK < (dI.length : Int)
             · rw [if_pos c20] at H
               have Qn : decide (gK < (dI.length : Int)) = true := decide_eq_true c20
               clear c20
               by_cases c21 : (rd aY gK) = (rd dI gK)
               · rw [if_pos c21] at H
                 have vN : ((rd aY gK) == (rd dI gK)) = true := beq_iff_eq.mpr c21
                 have abO : ((rd aY gK) != (rd dI gK)) = false := bne_eq_false_iff_eq.mpr c21
                 clear c21
                 have H' := ah.mk H
                 clear H
                 have Yi := qj.out
                 have Yf := qi.out
                 have Xd : wr.cell? ⟨jm, 0, none⟩ = some (.int .i64 aQ) := (aj gV.out 0).trans rfl
                 have Xc : wr.cell? ⟨jm, 1, none⟩ = some (.int .i64 a_) := (aj gV.out 1).trans rfl
                 have Xb : wr.cell? ⟨jm, 2, none⟩ = some (.slice cO aY.length cu) := (aj gV.out 2).trans rfl
                 have V9 := aA gV.out 0
                 have V8 := aA gV.out 1
                 have V7 := aA gV.out 2
                 have NC : 0 ≤ (gK : Int) := of_decide_eq_true (by first | (with_reducible assumption) | assumption)
                 have Nk : gK < (aY.length : Int) := of_decide_eq_true (by first | (with_reducible assumption) | assumption)
                 obtain ⟨abX, e214, xm⟩ := Kd.jv kC.out gK NC Nk
                 cases e214
                 replace xm := (HB.out.cell (World.block_lt_of_cell? w _ xm)).trans xm
                 replace NC := eq_true NC
                 replace Nk := eq_true Nk
                 have EG : wr.cell? ⟨kQ, 0, none⟩ = some (.int .i64 dS) := (aj jH.out 0).trans rfl
                 have EF : wr.cell? ⟨kQ, 1, none⟩ = some (.int .i64 dZ) := (aj jH.out 1).trans rfl
                 have EE : wr.cell? ⟨kQ, 2, none⟩ = some (.slice gY dI.length g_) := (aj jH.out 2).trans rfl
                 have Ey := aA jH.out 0
                 have Ew := aA jH.out 1
                 have Eu := aA jH.out 2
                 have Nz : 0 ≤ (gK : Int) := of_decide_eq_true (by first | (with_reducible assumption) | assumption)
                 have Nh : gK < (dI.length : Int) := of_decide_eq_true (by first | (with_reducible assumption) | assumption)
                 obtain ⟨abW, e215, xk⟩ := Kd.jv tV.out gK Nz Nh
                 cases e215
                 replace xk := (HB.out.cell (World.block_lt_of_cell? w _ xk)).trans xk
                 replace Nz := eq_true Nz
                 replace Nh := eq_true Nh
                 go_wp2
                 repeat (go_quiet (fail); try go_wp2)
                 go_roundg k2
                 case measure => have := HJ2.out; have := yN.out; omega
                 case rel => exact ⟨(wrap64 (gK + 1)), (by first | rfl | (simp; done) | (simp [*]; done)), H', ⟨by have := HJ2.out; have := yN.out; omega⟩, ⟨by (with_reducible repeat (first | refine ay ?_ _ | refine aC ?_ | refine az ?_ _)); exact gV.out⟩, ⟨by (with_reducible repeat (first | refine ay ?_ _ | refine aC ?_ | refine az ?_ _)); exact jH.out⟩, ⟨by repeat (first | (with_reducible first | exact HB.out | apply au | apply af | apply ak | refine aG ?_ qN.out | refine aG ?_ zX.out) | exact HB.out)⟩⟩
               · rw [if_neg c21] at H
                 have vN : ((rd aY gK) == (rd dI gK)) = false := beq_eq_false_iff_ne.mpr c21
                 have abO : ((rd aY gK) != (rd dI gK)) = true := bne_iff_ne.mpr c21
                 obtain rfl := Option.some.inj H
                 have Yh := qj.out
                 have Ye := qi.out
                 have WZ : wr.cell? ⟨jm, 0, none⟩ = some (.int .i64 aQ) := (aj gV.out 0).trans rfl
                 have WY : wr.cell? ⟨jm, 1, none⟩ = some (.int .i64 a_) := (aj gV.out 1).trans rfl
                 have WX : wr.cell? ⟨jm, 2, none⟩ = some (.slice cO aY.length cu) := (aj gV.out 2).trans rfl
                 have V3 := aA gV.out 0
                 have VZ := aA gV.out 1
                 have VY := aA gV.out 2
                 have NC : 0 ≤ (gK : Int) := of_decide_eq_true (by first | (with_reducible assumption) | assumption)
                 have Nk : gK < (aY.length : Int) := of_decide_eq_true (by first | (with_reducible assumption) | assumption)
                 obtain ⟨abX, e214, xm⟩ := Kd.jv kC.out gK NC Nk
                 cases e214
                 replace xm := (HB.out.cell (World.block_lt_of_cell? w _ xm)).trans xm
                 replace NC := eq_true NC
                 replace Nk := eq_true Nk
                 have PZ : wr.cell? ⟨kQ, 0, none⟩ = some (.int .i64 dS) := (aj jH.out 0).trans rfl
                 have PY : wr.cell? ⟨kQ, 1, none⟩ = some (.int .i64 dZ) := (aj jH.out 1).trans rfl
                 have PX : wr.cell? ⟨kQ, 2, none⟩ = some (.slice gY dI.length g_) := (aj jH.out 2).trans rfl
                 have Pz := aA jH.out 0
                 have Py := aA jH.out 1
                 have Px := aA jH.out 2
                 have Nz : 0 ≤ (gK : Int) := of_decide_eq_true (by first | (with_reducible assumption) | assumption)
                 have Nh : gK < (dI.length : Int) := of_decide_eq_true (by first | (with_reducible assumption) | assumption)
                 obtain ⟨abW, e215, xk⟩ := Kd.jv tV.out gK Nz Nh
                 cases e215
                 replace xk := (HB.out.cell (World.block_lt_of_cell? w _ xk)).trans xk
                 replace Nz := eq_true Nz
                 replace Nh := eq_true Nh
                 go_wp2
                 repeat (go_quiet (fail); try go_wp2)
                 go_ret
                 exact ⟨by first | rfl | (simp [aU, aT] <;> rfl) | (simp [*, aU, aT] <;> rfl), by repeat (first | (with_reducible first | exact HB.out | apply au | apply af | apply ak | refine aG ?_ qN.out | refine aG ?_ zX.out) | exact HB.out)⟩
             · rw [if_neg c20] at H
               exact absurd H (by simp)
           · rw [if_neg c19] at H
             exact absurd H (by simp)
         · rw [if_neg c18] at H
           have BI : decide (gK < (aY.length : Int)) = false := decide_eq_false c18
           clear c18
           obtain rfl := Option.some.inj H
           have Yg := qj.out
           have Yd := qi.out
           have WW : wr.cell? ⟨jm, 0, none⟩ = some (.int .i64 aQ) := (aj gV.out 0).trans rfl
           have WV : wr.cell? ⟨jm, 1, none⟩ = some (.int .i64 a_) := (aj gV.out 1).trans rfl
           have WU : wr.cell? ⟨jm, 2, none⟩ = some (.slice cO aY.length cu) := (aj gV.out 2).trans rfl
           have VX := aA gV.out 0
           have VW := aA gV.out 1
           have VV := aA gV.out 2
           go_wp2
           repeat (go_quiet (fail); try go_wp2)
           go_ret
           exact ⟨by first | rfl | (simp [aU, aT] <;> rfl) | (simp [*, aU, aT] <;> rfl), by repeat (first | (with_reducible first | exact HB.out | apply au | apply af | apply ak | refine aG ?_ qN.out | refine aG ?_ zX.out) | exact HB.out)⟩
def dV.l0 : Nat → Int → Int → List Int → Int → Option (Int × Int × List Int)
 | 0, _, _, _, _ => none
 | k + 1, x0, x1, x5, x6 => if x6 < (wrap64 (x0 * x1)) then (if x5.length < 17592186044416 then (dV.l0 k x0 x1 (x5 ++ [0]) (wrap64 (x6 + 1))) else (none)) else (some (x0, x1, x5))
def dV.f (k : Nat) (a0 : Int) (a1 : Int) : Option (Int × Int × List Int) := dV.l0 k a0 a1 ([] : List Int) 0
theorem dV.calls (k : Nat) (a0 : Int) (a1 : Int) (r1 : Int) (r2 : Int) (r3 : List Int) (w : World) (h : dV.f k a0 a1 = some (r1, r2, r3)) :
 Calls Try.prog 16 #[.int .i64 a0, .int .i64 a1] w fun e w' => ∃ wX : Value, e = .returned (.agg #[.int .i64 r1, .int .i64 r2, wX]) ∧ Kd.R (Kd.int .i64) 22 w' w.heap.size (fun _ => True) wX r3 ∧ Below w.heap.size w w' := by
 have yz := Try.underlying26
 have HB := ah.mk (Below.refl w.heap.size w)
 have H : (dV.l0 k a0 a1 ([] : List Int) 0) = some (r1, r2, r3) := h
 clear h
 have H' := ah.mk H
 clear H
 go_enter Try.func16, Try.ntmps16
 go_wp2_with (first | ((with_reducible refine dY (N := 4) rfl ?_); refine dH ?hg (N := 4) ?hd (cs := #[.int .i64 0, .int .i64 0, .slice none 0 0]) (t := 26) ?hr ?_; (case hd => rfl); (case hg => rfl); (case hr => first | (go_simp; done) | (go_simp; rfl)); intro yD hg w3 hbox hb; have bT := ah.mk (aI (by repeat (first | (with_reducible first | exact HB.out | apply au | apply af | apply ak) | exact HB.out)) hb); have dD := ah.mk (hbox); have dQ := ah.mk ((by rw [hg]; exact (aW (by repeat (first | (with_reducible first | exact HB.out | apply au | apply af | apply ak) | exact HB.out))) : w.heap.size ≤ yD)); have eH := ah.mk ((by rw [hg]; exact (aW (by repeat (first | (with_reducible first | exact HB.out | apply au | apply af | apply ak) | exact HB.out))) : w.heap.size ≤ yD)); clear HB; have HB := bT; have uQ := dD; have amr := dQ; have Md := eH; clear bT dD dQ eH; clear hb hbox hg))
 go_loopg [5, 6] k (fun kq v5 v6 w' => ∃ (J5 : List Int) (lC : Int), v6 = .int .i64 lC ∧ ah (dV.l0 kq a0 a1 J5 lC = some (r1, r2, r3)) ∧ ah (kq ≤ k) ∧ ah (Kd.R (Kd.int .i64) 22 w' w.heap.size (fun _ => True) v5 J5) ∧ ah (w'.heap[yD]? = some (.cells #[.int .i64 0, .int .i64 0, (.slice none 0 0)] 26 (0, 0))) ∧ ah (Below w.heap.size w w'))
 case atStart => exact ⟨(([] : List Int)), (0), (by first | rfl | (simp; done) | (simp [*]; done)), H', ⟨Nat.le_refl _⟩, ⟨by first | exact Kd.qV _ _ _ _ _ | exact Kd.vV _ _ _ _ _ | exact Kd.vP _ _ _ _ _ | exact Kd.vU _ _ _ _ _ | exact Kd.vS _ _ _ _ _⟩, ⟨by (with_reducible repeat (first | refine ay ?_ _ | refine aC ?_ | refine az ?_ _)); exact uQ.out⟩, ⟨by repeat (first | (with_reducible first | exact HB.out | apply au | apply af | apply ak | refine aG ?_ Md.out) | exact HB.out)⟩⟩
 case round =>
  clear H'
  try clear c1
  try clear p2
  obtain ⟨J5, lC, rfl, HA, Aq, UJ, uQ, HB⟩ := hrel
  cases gk with
  | zero => exact absurd HA.out (by simp [dV.l0])
  | succ k1 =>
    have H := HA.out
    clear HA
    simp only [dV.l0] at H
    by_cases c4 : lC < (wrap64 (a0 * a1))
    · rw [if_pos c4] at H
      have ru : decide (lC < (wrap64 (a0 * a1))) = true := decide_eq_true c4
      clear c4
      by_cases c5 : J5.length < 17592186044416
      · rw [if_pos c5] at H
        have ajA := ah.mk c5
        clear c5
        obtain ⟨aaz, K_⟩ : ∃ y_ : List Int, y_ = (J5 ++ [0]) := ⟨_, rfl⟩
        replace H : (dV.l0 k1 a0 a1 aaz (wrap64 (lC + 1))) = some (r1, r2, r3) := by first | (rw [K_]; with_reducible exact H) | (have Dt := (Option.bind_some _ _).symm.trans H; rw [K_]; with_reducible exact Dt) | (have Dt := (Option.bind_some _ _).symm.trans H; with_reducible exact Dt) | with_reducible exact H | (rw [K_]; exact H) | exact H
        have acD := ah.mk K_
        clear K_
        have H' := ah.mk H
        clear H
        go_wp2_with (first | ((with_reducible refine JE (b := .append) (xs := #[.tmp 14, .tmp 15]) rfl ?_); at_builtin; refine Kd.UA (Kd.int .i64) (w0 := w) w.heap.size rfl (.tmp 14) (.tmp 15) 24 22 (.int .i64 0) 8 rfl Try.underlying24 info22 rfl (by decide) (by omega) u5 J5 0 [.int .i64 0] (fun _ => True) (fun _ => False) rfl rfl ?aP (fun _ hk => hk.elim) ?aF ?aO ?aB ?aS ?aL ?_; (case aP => exact rfl); (case aB => exact (by repeat (first | (with_reducible first | exact HB.out | apply au | apply af | apply ak | refine aG ?_ Md.out) | exact HB.out))); (case aF => exact (fun _ _ => trivial)); (case aO => exact (by (with_reducible repeat (first | apply Kd.bZ | apply Kd.bY | apply Kd.dA)); exact UJ.out)); (case aS => exact (aW (by repeat (first | (with_reducible first | exact HB.out | apply au | apply af | apply ak | refine aG ?_ Md.out) | exact HB.out)))); (case aL => have := ajA.out; omega); intro v218 w6 ho hb hg hat; rw [← acD.out] at ho; have bT := ah.mk (ry (g := yD) (o := .cells #[.int .i64 0, .int .i64 0, .slice none 0 0] 26 (0, 0)) (by (with_reducible repeat (first | refine ay ?_ _ | refine aC ?_ | refine az ?_ _)); exact uQ.out) hg (Kd.wO UJ.out uQ.out (by decide))); have dD := ah.mk (hb); have dQ := ah.mk (ho); clear uQ; clear HB; clear UJ; have uQ := bT; have HB := dD; have acZ := dQ; clear bT dD dQ; clear ho hb hg hat))
        go_roundg k1
        case measure => have := Aq.out; omega
        case rel => exact ⟨(aaz), (wrap64 (lC + 1)), (by first | rfl | (simp; done) | (simp [*]; done)), H', ⟨by have := Aq.out; omega⟩, ⟨by (with_reducible repeat (first | apply Kd.bZ | apply Kd.bY | apply Kd.dA)); exact acZ.out⟩, ⟨by (with_reducible repeat (first | refine ay ?_ _ | refine aC ?_ | refine az ?_ _)); exact uQ.out⟩, ⟨by repeat (first | (with_reducible first | exact HB.out | apply au | apply af | apply ak | refine aG ?_ Md.out) | exact HB.out)⟩⟩
      · rw [if_neg c5] at H
        exact absurd H (by simp)
    · rw [if_neg c4] at H
      have ru : decide (lC < (wrap64 (a0 * a1))) = false := decide_eq_false c4
      clear c4
      simp only [Option.some.injEq, Prod.mk.injEq] at H
      obtain ⟨rfl, rfl, rfl⟩ := H
      obtain ⟨Ao7, co7, eo7⟩ := Kd.iq UJ.out
      subst eo7
      have CQ : wr.cell? ⟨yD, 0, none⟩ = some (.int .i64 0) := (aj uQ.out 0).trans rfl
      have CO : wr.cell? ⟨yD, 1, none⟩ = some (.int .i64 0) := (aj uQ.out 1).trans rfl
      have CJ : wr.cell? ⟨yD, 2, none⟩ = some (.slice none 0 0) := (aj uQ.out 2).trans rfl
      have CG := aA uQ.out 0
      have CB := aA uQ.out 1
      have Cm := aA uQ.out 2
      go_wp2
      refine bodyPost_ret (results_cell_row rfl _ _ yD 26 #[.int .i64 a0, .int .i64 a1, .slice Ao7 J5.length co7] (0, 0) _ rfl (by (with_reducible repeat (first | refine ay ?_ _ | refine aC ?_ | refine az ?_ _)); refine bQ (cs := #[.int .i64 a0, .int .i64 a1, .slice none 0 0]) ?_ 2 _ rfl; (with_reducible repeat (first | refine ay ?_ _ | refine aC ?_ | refine az ?_ _)); refine bQ (cs := #[.int .i64 a0, .int .i64 0, .slice none 0 0]) ?_ 1 _ rfl; (with_reducible repeat (first | refine ay ?_ _ | refine aC ?_ | refine az ?_ _)); refine bQ (cs := #[.int .i64 0, .int .i64 0, .slice none 0 0]) ?_ 0 _ rfl; (with_reducible repeat (first | refine ay ?_ _ | refine aC ?_ | refine az ?_ _)); exact uQ.out) Try.underlying26 rfl (by kernel_rfl)) rfl ?_
      exact ⟨_, by first | rfl | (simp [aU, aT] <;> rfl) | (simp [*, aU, aT] <;> rfl), by (with_reducible repeat (first | apply Kd.bZ | apply Kd.bY | apply Kd.dA)); exact Kd.fQ (Kd.dM (p := ⟨yD, 2, none⟩) (Kd.dM (p := ⟨yD, 1, none⟩) (Kd.dM (p := ⟨yD, 0, none⟩) (Kd.iM UJ.out uQ.out (by decide)) (fun _ hk => hk.2) (.int .i64 a0)) (fun _ hk => hk.2) (.int .i64 a1)) (fun _ hk => hk.2) (.slice Ao7 J5.length co7)) (fun _ hk => trivial), by repeat (first | (with_reducible first | exact HB.out | apply au | apply af | apply ak | refine aG ?_ Md.out) | exact HB.out)⟩
end Go.Proofs.Ytninmcmajbfccaa.PQ

namespace Go.Proofs.Ytninmcmajbfccaa.PQ
open Go.RowKit Go.Proofs.aH.bK Go.Proofs.aH.dG Go.Proofs.aH.dJ
attribute [local go_sem] jS jQ kT kS ji jh jR jP
set_option linter.unusedVariables false
set_option linter.unusedSimpArgs false
def fC.f (a0 : Int) : Option (Bool) := if a0 ≥ (-70368744177664) then (some (decide (a0 ≤ 70368744177663))) else (some false)
theorem fC.calls (a0 : Int) (r : Bool) (w : World) (h : fC.f a0 = some r) :
 Calls Try.prog 37 #[.int .i64 a0] w fun e w' => e = .returned (.bool r) ∧ dK w w' := by
 have H : (if a0 ≥ (-70368744177664) then (some (decide (a0 ≤ 70368744177663))) else (some false)) = some r := h
 clear h
 by_cases c2 : a0 ≥ (-70368744177664)
 · rw [if_pos c2] at H
   have Oj : decide ((-70368744177664) ≤ a0) = true := decide_eq_true c2
   clear c2
   obtain rfl := Option.some.inj H
   go_enter Try.func37, Try.ntmps37
   go_wp2
   go_ret
   exact ⟨by first | rfl | (simp; done) | (simp [*]; done), by repeat (first | exact dK.refl _ | apply dK.step)⟩
 · rw [if_neg c2] at H
   have Oj : decide ((-70368744177664) ≤ a0) = false := decide_eq_false c2
   clear c2
   obtain rfl := Option.some.inj H
   go_enter Try.func37, Try.ntmps37
   go_wp2
   go_ret
   exact ⟨by first | rfl | (simp; done) | (simp [*]; done), by repeat (first | exact dK.refl _ | apply dK.step)⟩
mutual
def aX.j0 : Nat → Bool → Int → Int → List Int → Option (Bool)
 | 0, _, _, _, _ => none
 | k + 1, x33, IU, IQ, AO => if x33 = true then (some false) else (aX.l0 k 0 IU IQ AO)
def aX.l0 : Nat → Int → Int → Int → List Int → Option (Bool)
 | 0, _, _, _, _ => none
 | k + 1, x3, IU, IQ, AO => if x3 < (AO.length : Int) then (if 0 ≤ x3 then ((fC.f (rd AO x3)).bind fun t205 => (if t205 = true then (aX.l0 k (wrap64 (x3 + 1)) IU IQ AO) else (some false))) else (none)) else (some true)
end
def aX.f (k : Nat) (aQ : Int) (a_ : Int) (aY : List Int) : Option (Bool) := if aQ < 1 then (aX.j0 k true aQ a_ aY) else (if aQ > 8 then (aX.j0 k true aQ a_ aY) else (if a_ < 1 then (aX.j0 k true aQ a_ aY) else (if a_ > 8 then (aX.j0 k true aQ a_ aY) else (aX.j0 k ((aY.length : Int) != (wrap64 (aQ * a_))) aQ a_ aY))))
theorem aX.Fh : ∀ k, (∀ y0 y1 y2 y3, nT (aX.j0 k y0 y1 y2 y3) (aX.j0 (k + 1) y0 y1 y2 y3)) ∧ (∀ y0 y1 y2 y3, nT (aX.l0 k y0 y1 y2 y3) (aX.l0 (k + 1) y0 y1 y2 y3))
 | 0 => ⟨fun _ _ _ _ r h => by simp [aX.j0] at h, fun _ _ _ _ r h => by simp [aX.l0] at h⟩
 | k + 1 => by
   obtain ⟨NU, ih1⟩ := aX.Fh k
   refine ⟨?_, ?_⟩
   · intro y0 y1 y2 y3
     unfold aX.j0
     repeat' first
     | (with_reducible exact NU _ _ _ _)
     | (with_reducible exact ih1 _ _ _ _)
     | (with_reducible exact nT.refl _)
     | (with_reducible exact nT.none _)
     | (with_reducible refine nT.ite ?_ ?_)
     | (with_reducible refine nT.bind ?_ (fun _ => ?_))
     | exact NU _ _ _ _
     | exact ih1 _ _ _ _
     | exact nT.none _
     | refine nT.ite ?_ ?_
     | refine nT.bind ?_ (fun _ => ?_)
   · intro y0 y1 y2 y3
     unfold aX.l0
     repeat' first
     | (with_reducible exact NU _ _ _ _)
     | (with_reducible exact ih1 _ _ _ _)
     | (with_reducible exact nT.refl _)
     | (with_reducible exact nT.none _)
     | (with_reducible refine nT.ite ?_ ?_)
     | (with_reducible refine nT.bind ?_ (fun _ => ?_))
     | exact NU _ _ _ _
     | exact ih1 _ _ _ _
     | exact nT.none _
     | refine nT.ite ?_ ?_
     | refine nT.bind ?_ (fun _ => ?_)
theorem aX.mono : ∀ a0 a1 a2 k, nT (aX.f k a0 a1 a2) (aX.f (k + 1) a0 a1 a2) := by
 intro a0 a1 a2 k
 obtain ⟨NU, ih1⟩ := aX.Fh k
 unfold aX.f
 repeat' first
  | (with_reducible exact NU _ _ _ _)
  | (with_reducible exact ih1 _ _ _ _)
  | (with_reducible exact nT.refl _)
  | (with_reducible exact nT.none _)
  | (with_reducible refine nT.ite ?_ ?_)
  | (with_reducible refine nT.bind ?_ (fun _ => ?_))
  | exact NU _ _ _ _
  | exact ih1 _ _ _ _
  | exact nT.none _
  | refine nT.ite ?_ ?_
  | refine nT.bind ?_ (fun _ => ?_)
theorem aX.calls (k : Nat) (aQ : Int) (a_ : Int) (cO : Option Addr) (cu : Nat) (aY : List Int) (r : Bool) (w : World) (jl : Kd.C (Kd.int .i64) w cO aY.length aY) (jD : aY.length ≤ cu) (h : aX.f k aQ a_ aY = some r) :
 Calls Try.prog 14 #[.agg #[.int .i64 aQ, .int .i64 a_, .slice cO aY.length cu]] w fun e w' => e = .returned (.bool r) ∧ Below w.heap.size w w' := by
 have yz := Try.underlying26
 have kC := ah.mk jl
 have lM := ah.mk jD
 clear jl jD
 have HB := ah.mk (Below.refl w.heap.size w)
 have H : (if aQ < 1 then (aX.j0 k true aQ a_ aY) else (if aQ > 8 then (aX.j0 k true aQ a_ aY) else (if a_ < 1 then (aX.j0 k true aQ a_ aY) else (if a_ > 8 then (aX.j0 k true aQ a_ aY) else (aX.j0 k ((aY.length : Int) != (wrap64 (aQ * a_))) aQ a_ aY))))) = some r := h
 clear h
 have HC2 := ah.mk H
 clear H
 go_enter Try.func14, Try.ntmps14
 go_upto_region 1 with (first | ((with_reducible refine dY (N := 1) rfl ?_); (try (refine mX (by rfl) ?_; dsimp only)); refine dH ?hg (N := 1) ?hd (cs := #[.int .i64 aQ, .int .i64 a_, .slice cO aY.length cu]) (t := 26) ?hr ?_; (case hd => rfl); (case hg => rfl); (case hr => first | (go_simp; done) | (go_simp; rfl)); intro lT hg w3 hbox hb; have bT := ah.mk (aI (by repeat (first | (with_reducible first | exact HB.out | apply au | apply af | apply ak) | exact HB.out)) hb); have dD := ah.mk (hbox); have dQ := ah.mk ((by rw [hg]; exact (aW (by repeat (first | (with_reducible first | exact HB.out | apply au | apply af | apply ak) | exact HB.out))) : w.heap.size ≤ lT)); have eH := ah.mk ((by rw [hg]; exact (aW (by repeat (first | (with_reducible first | exact HB.out | apply au | apply af | apply ak) | exact HB.out))) : w.heap.size ≤ lT)); clear HB; have HB := bT; have iy := dD; have ams := dQ; have zY := eH; clear bT dD dQ eH; clear hb hbox hg))
 (try simp only [Act.put, List.setIfInBounds_toArray, List.set_cons_zero, List.set_cons_succ])
 go_cut [33] (fun v33 wc => ∃ (kq : Nat) (OH : Bool), v33 = .bool OH ∧ ah (aX.j0 kq OH aQ a_ aY = some r) ∧ ah (kq ≤ k) ∧ ah (wc.heap[lT]? = some (.cells #[.int .i64 aQ, .int .i64 a_, (.slice cO aY.length cu)] 26 (0, 0))) ∧ ah (Below w.heap.size w wc))
 case first =>
  have H := HC2.out
  clear HC2
  by_cases c4 : aQ < 1
  · rw [if_pos c4] at H
    have ru : decide (aQ < 1) = true := decide_eq_true c4
    clear c4
    (first | rw [ru] | (simp only [aJ, aK]; rw [ru]) | skip)
    have H' := ah.mk H
    clear H
    have Oa : w3.cell? ⟨lT, 0, none⟩ = some (.int .i64 aQ) := (aj iy.out 0).trans rfl
    have N_ : w3.cell? ⟨lT, 1, none⟩ = some (.int .i64 a_) := (aj iy.out 1).trans rfl
    have NZ : w3.cell? ⟨lT, 2, none⟩ = some (.slice cO aY.length cu) := (aj iy.out 2).trans rfl
    have NY := aA iy.out 0
    have NW := aA iy.out 1
    have NV := aA iy.out 2
    go_wp2
    go_meet
    case rel => exact ⟨_, (true), (by first | rfl | (simp; done) | (simp [*]; done)), H', ⟨by first | omega | exact Nat.le_refl _⟩, ⟨by (with_reducible repeat (first | refine ay ?_ _ | refine aC ?_ | refine az ?_ _)); exact iy.out⟩, ⟨by repeat (first | (with_reducible first | exact HB.out | apply au | apply af | apply ak | refine aG ?_ zY.out) | exact HB.out)⟩⟩
  · rw [if_neg c4] at H
    have ru : decide (aQ < 1) = false := decide_eq_false c4
    clear c4
    (first | rw [ru] | (simp only [aJ, aK]; rw [ru]) | skip)
    by_cases c6 : aQ > 8
    · rw [if_pos c6] at H
      have wC : decide (8 < aQ) = true := decide_eq_true c6
      clear c6
      have H' := ah.mk H
      clear H
      have FY : w3.cell? ⟨lT, 0, none⟩ = some (.int .i64 aQ) := (aj iy.out 0).trans rfl
      have FW : w3.cell? ⟨lT, 1, none⟩ = some (.int .i64 a_) := (aj iy.out 1).trans rfl
      have FV : w3.cell? ⟨lT, 2, none⟩ = some (.slice cO aY.length cu) := (aj iy.out 2).trans rfl
      have FI := aA iy.out 0
      have FD := aA iy.out 1
      have FC := aA iy.out 2
      go_wp2
      go_meet
      case rel => exact ⟨_, (true), (by first | rfl | (simp; done) | (simp [*]; done)), H', ⟨by first | omega | exact Nat.le_refl _⟩, ⟨by (with_reducible repeat (first | refine ay ?_ _ | refine aC ?_ | refine az ?_ _)); exact iy.out⟩, ⟨by repeat (first | (with_reducible first | exact HB.out | apply au | apply af | apply ak | refine aG ?_ zY.out) | exact HB.out)⟩⟩
    · rw [if_neg c6] at H
      have wC : decide (8 < aQ) = false := decide_eq_false c6
      clear c6
      by_cases c8 : a_ < 1
      · rw [if_pos c8] at H
        have Gm : decide (a_ < 1) = true := decide_eq_true c8
        clear c8
        have H' := ah.mk H
        clear H
        have qZ : w3.cell? ⟨lT, 0, none⟩ = some (.int .i64 aQ) := (aj iy.out 0).trans rfl
        have sZ : w3.cell? ⟨lT, 1, none⟩ = some (.int .i64 a_) := (aj iy.out 1).trans rfl
        have sW : w3.cell? ⟨lT, 2, none⟩ = some (.slice cO aY.length cu) := (aj iy.out 2).trans rfl
        have qY := aA iy.out 0
        have sS := aA iy.out 1
        have sQ := aA iy.out 2
        go_wp2
        go_meet
        case rel => exact ⟨_, (true), (by first | rfl | (simp; done) | (simp [*]; done)), H', ⟨by first | omega | exact Nat.le_refl _⟩, ⟨by (with_reducible repeat (first | refine ay ?_ _ | refine aC ?_ | refine az ?_ _)); exact iy.out⟩, ⟨by repeat (first | (with_reducible first | exact HB.out | apply au | apply af | apply ak | refine aG ?_ zY.out) | exact HB.out)⟩⟩
      · rw [if_neg c8] at H
        have Gm : decide (a_ < 1) = false := decide_eq_false c8
        clear c8
        by_cases c10 : a_ > 8
        · rw [if_pos c10] at H
          have yH : decide (8 < a_) = true := decide_eq_true c10
          clear c10
          have H' := ah.mk H
          clear H
          have vJ : w3.cell? ⟨lT, 0, none⟩ = some (.int .i64 aQ) := (aj iy.out 0).trans rfl
          have vI : w3.cell? ⟨lT, 1, none⟩ = some (.int .i64 a_) := (aj iy.out 1).trans rfl
          have vH : w3.cell? ⟨lT, 2, none⟩ = some (.slice cO aY.length cu) := (aj iy.out 2).trans rfl
          have vG := aA iy.out 0
          have vF := aA iy.out 1
          have vC := aA iy.out 2
          go_wp2
          go_meet
          case rel => exact ⟨_, (true), (by first | rfl | (simp; done) | (simp [*]; done)), H', ⟨by first | omega | exact Nat.le_refl _⟩, ⟨by (with_reducible repeat (first | refine ay ?_ _ | refine aC ?_ | refine az ?_ _)); exact iy.out⟩, ⟨by repeat (first | (with_reducible first | exact HB.out | apply au | apply af | apply ak | refine aG ?_ zY.out) | exact HB.out)⟩⟩
        · rw [if_neg c10] at H
          have yH : decide (8 < a_) = false := decide_eq_false c10
          clear c10
          have H' := ah.mk H
          clear H
          have nN : w3.cell? ⟨lT, 0, none⟩ = some (.int .i64 aQ) := (aj iy.out 0).trans rfl
          have nM : w3.cell? ⟨lT, 1, none⟩ = some (.int .i64 a_) := (aj iy.out 1).trans rfl
          have nK : w3.cell? ⟨lT, 2, none⟩ = some (.slice cO aY.length cu) := (aj iy.out 2).trans rfl
          have nJ := aA iy.out 0
          have nI := aA iy.out 1
          have nH := aA iy.out 2
          go_wp2
          go_meet
          case rel => exact ⟨_, (((aY.length : Int) != (wrap64 (aQ * a_)))), (by first | rfl | (simp; done) | (simp [*]; done)), H', ⟨by first | omega | exact Nat.le_refl _⟩, ⟨by (with_reducible repeat (first | refine ay ?_ _ | refine aC ?_ | refine az ?_ _)); exact iy.out⟩, ⟨by repeat (first | (with_reducible first | exact HB.out | apply au | apply af | apply ak | refine aG ?_ zY.out) | exact HB.out)⟩⟩
 case rest =>
  clear HC2
  try clear c1
  try clear p2
  try clear c4
  try clear ru
  try clear c6
  try clear wC
  try clear p6
  try clear c8
  try clear Gm
  try clear c10
  try clear yH
  try clear vJ
  try clear vI
  try clear vH
  try clear nN
  try clear nM
  try clear nK
  try clear Oa
  try clear N_
  try clear NZ
  try clear FY
  try clear FW
  try clear FV
  try clear qZ
  try clear sZ
  try clear sW
  try clear vG
  try clear vF
  try clear vC
  try clear nJ
  try clear nI
  try clear nH
  try clear NY
  try clear NW
  try clear NV
  try clear FI
  try clear FD
  try clear FC
  try clear qY
  try clear sS
  try clear sQ
  obtain ⟨kq, OH, rfl, HA, YH, iy, HB⟩ := hcut
  cases kq with
  | zero => exact absurd HA.out (by simp [aX.j0])
  | succ OZ =>
    have H := HA.out
    clear HA
    simp only [aX.j0] at H
    by_cases c13 : OH = true
    · subst c13
      rw [if_pos rfl] at H
      obtain rfl := Option.some.inj H
      go_wp2
      go_ret
      exact ⟨by first | rfl | (simp [aU, aT] <;> rfl) | (simp [*, aU, aT] <;> rfl), by repeat (first | (with_reducible first | exact HB.out | apply au | apply af | apply ak | refine aG ?_ zY.out) | exact HB.out)⟩
    · replace c13 := Bool.eq_false_iff.mpr c13
      subst c13
      have H1 : (aX.l0 OZ 0 aQ a_ aY) = some r := by rw [if_neg (show ¬ (false = true) by decide)] at H; exact H
      clear H
      have H := H1
      clear H1
      have H' := ah.mk H
      clear H
      go_wp2
      go_loopg [3] OZ (fun kq v3 w' => ∃ (wH : Int), v3 = .int .i64 wH ∧ ah (aX.l0 kq wH aQ a_ aY = some r) ∧ ah (kq ≤ OZ) ∧ ah (w'.heap[lT]? = some (.cells #[.int .i64 aQ, .int .i64 a_, (.slice cO aY.length cu)] 26 (0, 0))) ∧ ah (Below w.heap.size w w'))
      case atStart => exact ⟨(0), (by first | rfl | (simp; done) | (simp [*]; done)), H', ⟨Nat.le_refl _⟩, ⟨by (with_reducible repeat (first | refine ay ?_ _ | refine aC ?_ | refine az ?_ _)); exact iy.out⟩, ⟨by repeat (first | (with_reducible first | exact HB.out | apply au | apply af | apply ak | refine aG ?_ zY.out) | exact HB.out)⟩⟩
      case round =>
       clear H'
       try clear c1
       try clear p2
       try clear c4
       try clear ru
       try clear c6
       try clear wC
       try clear p6
       try clear c8
       try clear Gm
       try clear c10
       try clear yH
       try clear c13
       try clear vJ
       try clear vI
       try clear vH
       try clear nN
       try clear nM
       try clear nK
       try clear Oa
       try clear N_
       try clear NZ
       try clear FY
       try clear FW
       try clear FV
       try clear qZ
       try clear sZ
       try clear sW
       try clear vG
       try clear vF
       try clear vC
       try clear nJ
       try clear nI
       try clear nH
       try clear NY
       try clear NW
       try clear NV
       try clear FI
       try clear FD
       try clear FC
       try clear qY
       try clear sS
       try clear sQ
       try clear p2
       try clear p6
       obtain ⟨wH, rfl, HA, yN, iy, HB⟩ := hrel
       cases gk with
       | zero => exact absurd HA.out (by simp [aX.l0])
       | succ k2 =>
         have H := HA.out
         clear HA
         simp only [aX.l0] at H
         by_cases c14 : wH < (aY.length : Int)
         · rw [if_pos c14] at H
           have oQ : decide (wH < (aY.length : Int)) = true := decide_eq_true c14
           clear c14
           by_cases c15 : 0 ≤ wH
           · rw [if_pos c15] at H
             have Gp : decide (0 ≤ wH) = true := decide_eq_true c15
             clear c15
             replace H := Option.bind_eq_some_iff.mp H
             obtain ⟨t205, GK, H⟩ := H
             replace H : (if t205 = true then (aX.l0 k2 (wrap64 (wH + 1)) aQ a_ aY) else (some false)) = some r := H
             have J3 := ah.mk GK
             clear GK
             by_cases c17 : t205 = true
             · subst c17
               rw [if_pos rfl] at H
               have H' := ah.mk H
               clear H
               have Js : wr.cell? ⟨lT, 0, none⟩ = some (.int .i64 aQ) := (aj iy.out 0).trans rfl
               have Qe : wr.cell? ⟨lT, 1, none⟩ = some (.int .i64 a_) := (aj iy.out 1).trans rfl
               have Qd : wr.cell? ⟨lT, 2, none⟩ = some (.slice cO aY.length cu) := (aj iy.out 2).trans rfl
               have Ji := aA iy.out 0
               have PT := aA iy.out 1
               have PS := aA iy.out 2
               have NG : 0 ≤ (wH : Int) := of_decide_eq_true (by first | (with_reducible assumption) | assumption)
               have Nq : wH < (aY.length : Int) := of_decide_eq_true (by first | (with_reducible assumption) | assumption)
               obtain ⟨abY, e204, xw⟩ := Kd.jv kC.out wH NG Nq
               cases e204
               replace xw := (HB.out.cell (World.block_lt_of_cell? w _ xw)).trans xw
               replace NG := eq_true NG
               replace Nq := eq_true Nq
               go_wp2_with (first | ((with_reducible refine aV (f := 37) rfl ?_); refine cZ (some 46) rfl rfl Try.func37 (by kernel_rfl) rfl #[.int .i64 (rd aY wH)] rfl (by (try simp only [List.map_toArray, List.map_cons, List.map_nil]); first | done | rfl | (simp only [List.length_drop, List.length_take]; rfl)) ?_; (with_reducible refine (fC.calls (rd aY wH) true _ J3.out).mono ?_); rintro e w' ⟨rfl, ⟨nd, rfl⟩⟩; refine ⟨_, rfl, ?_⟩))
               go_roundg k2
               case measure => have := YH.out; have := yN.out; omega
               case rel => exact ⟨(wrap64 (wH + 1)), (by first | rfl | (simp; done) | (simp [*]; done)), H', ⟨by have := YH.out; have := yN.out; omega⟩, ⟨by (with_reducible repeat (first | refine ay ?_ _ | refine aC ?_ | refine az ?_ _)); exact iy.out⟩, ⟨by repeat (first | (with_reducible first | exact HB.out | apply au | apply af | apply ak | refine aG ?_ zY.out) | exact HB.out)⟩⟩
             · replace c17 := Bool.eq_false_iff.mpr c17
               subst c17
               have H1 : (some false) = some r := by rw [if_neg (show ¬ (false = true) by decide)] at H; exact H
               clear H
               have H := H1
               clear H1
               obtain rfl := Option.some.inj H
               have Qc : wr.cell? ⟨lT, 0, none⟩ = some (.int .i64 aQ) := (aj iy.out 0).trans rfl
               have Qb : wr.cell? ⟨lT, 1, none⟩ = some (.int .i64 a_) := (aj iy.out 1).trans rfl
               have Qa : wr.cell? ⟨lT, 2, none⟩ = some (.slice cO aY.length cu) := (aj iy.out 2).trans rfl
               have PO := aA iy.out 0
               have PN := aA iy.out 1
               have PM := aA iy.out 2
               have NG : 0 ≤ (wH : Int) := of_decide_eq_true (by first | (with_reducible assumption) | assumption)
               have Nq : wH < (aY.length : Int) := of_decide_eq_true (by first | (with_reducible assumption) | assumption)
               obtain ⟨abY, e204, xw⟩ := Kd.jv kC.out wH NG Nq
               cases e204
               replace xw := (HB.out.cell (World.block_lt_of_cell? w _ xw)).trans xw
               replace NG := eq_true NG
               replace Nq := eq_true Nq
               go_wp2_with (first | ((with_reducible refine aV (f := 37) rfl ?_); refine cZ (some 46) rfl rfl Try.func37 (by kernel_rfl) rfl #[.int .i64 (rd aY wH)] rfl (by (try simp only [List.map_toArray, List.map_cons, List.map_nil]); first | done | rfl | (simp only [List.length_drop, List.length_take]; rfl)) ?_; (with_reducible refine (fC.calls (rd aY wH) false _ J3.out).mono ?_); rintro e w' ⟨rfl, ⟨nd, rfl⟩⟩; refine ⟨_, rfl, ?_⟩))
               go_ret
               exact ⟨by first | rfl | (simp [aU, aT] <;> rfl) | (simp [*, aU, aT] <;> rfl), by repeat (first | (with_reducible first | exact HB.out | apply au | apply af | apply ak | refine aG ?_ zY.out) | exact HB.out)⟩
           · rw [if_neg c15] at H
             exact absurd H (by simp)
         · rw [if_neg c14] at H
           have oQ : decide (wH < (aY.length : Int)) = false := decide_eq_false c14
           clear c14
           obtain rfl := Option.some.inj H
           have aho : wr.cell? ⟨lT, 0, none⟩ = some (.int .i64 aQ) := (aj iy.out 0).trans rfl
           have ahn : wr.cell? ⟨lT, 1, none⟩ = some (.int .i64 a_) := (aj iy.out 1).trans rfl
           have ahm : wr.cell? ⟨lT, 2, none⟩ = some (.slice cO aY.length cu) := (aj iy.out 2).trans rfl
           have af8 := aA iy.out 0
           have af7 := aA iy.out 1
           have af6 := aA iy.out 2
           go_wp2
           go_ret
           exact ⟨by first | rfl | (simp [aU, aT] <;> rfl) | (simp [*, aU, aT] <;> rfl), by repeat (first | (with_reducible first | exact HB.out | apply au | apply af | apply ak | refine aG ?_ zY.out) | exact HB.out)⟩
end Go.Proofs.Ytninmcmajbfccaa.PQ

namespace Go.Proofs.Ytninmcmajbfccaa.PQ
open Go.RowKit Go.Proofs.aH.bK Go.Proofs.aH.dG Go.Proofs.aH.dJ
attribute [local go_sem] jS jQ kT kS ji jh jR jP
set_option linter.unusedVariables false
set_option linter.unusedSimpArgs false
mutual
def aZ.j0 : Nat → Int → Bool → Int → Int → List Int → Int → Int → List Int → Option (Bool)
 | 0, _, _, _, _, _, _, _, _ => none
 | k + 1, x5, x42, yX, yV, yU, yT, yS, pK => if x42 = true then (some false) else (aZ.l0 k x5 0 yX yV yU yT yS pK)
def aZ.l0 : Nat → Int → Int → Int → Int → List Int → Int → Int → List Int → Option (Bool)
 | 0, _, _, _, _, _, _, _, _ => none
 | k + 1, x5, x6, yX, yV, yU, yT, yS, pK => if x6 < x5 then (if 0 ≤ (wrap64 ((wrap64 (x6 * x5)) + x6)) then (if (wrap64 ((wrap64 (x6 * x5)) + x6)) < (pK.length : Int) then (if (rd pK (wrap64 ((wrap64 (x6 * x5)) + x6))) < 0 then (some false) else (aZ.l1 k x5 x6 0 yX yV yU yT yS pK)) else (none)) else (none)) else (some true)
def aZ.l1 : Nat → Int → Int → Int → Int → Int → List Int → Int → Int → List Int → Option (Bool)
 | 0, _, _, _, _, _, _, _, _, _ => none
 | k + 1, x5, x6, x7, yX, yV, yU, yT, yS, pK => if x7 < x6 then (if 0 ≤ (wrap64 ((wrap64 (x6 * x5)) + x7)) then (if (wrap64 ((wrap64 (x6 * x5)) + x7)) < (pK.length : Int) then (if 0 ≤ (wrap64 ((wrap64 (x7 * x5)) + x6)) then (if (wrap64 ((wrap64 (x7 * x5)) + x6)) < (pK.length : Int) then (if (rd pK (wrap64 ((wrap64 (x6 * x5)) + x7))) = (rd pK (wrap64 ((wrap64 (x7 * x5)) + x6))) then (aZ.l1 k x5 x6 (wrap64 (x7 + 1)) yX yV yU yT yS pK) else (some false)) else (none)) else (none)) else (none)) else (none)) else (aZ.l0 k x5 (wrap64 (x6 + 1)) yX yV yU yT yS pK)
end
def aZ.f (k : Nat) (aQ : Int) (a_ : Int) (aY : List Int) (dw : Int) (dB : Int) (bV : List Int) : Option (Bool) := (aX.f k aQ a_ aY).bind fun t207 => ((aX.f k dw dB bV).bind fun t208 => (if t207 = true then (if t208 = true then (if a_ = 1 then (if dw = aQ then (aZ.j0 k aQ (dB != aQ) aQ a_ aY dw dB bV) else (aZ.j0 k aQ true aQ a_ aY dw dB bV)) else (aZ.j0 k aQ true aQ a_ aY dw dB bV)) else (aZ.j0 k aQ true aQ a_ aY dw dB bV)) else (aZ.j0 k aQ true aQ a_ aY dw dB bV)))
theorem aZ.calls (k : Nat) (aQ : Int) (a_ : Int) (cO : Option Addr) (cu : Nat) (aY : List Int) (dw : Int) (dB : Int) (gp : Option Addr) (fZ : Nat) (bV : List Int) (r : Bool) (w : World) (jl : Kd.C (Kd.int .i64) w cO aY.length aY) (jD : aY.length ≤ cu) (vw : Kd.C (Kd.int .i64) w gp bV.length bV) (vK : bV.length ≤ fZ) (h : aZ.f k aQ a_ aY dw dB bV = some r) :
 Calls Try.prog 17 #[.agg #[.int .i64 aQ, .int .i64 a_, .slice cO aY.length cu, .int .i64 dw, .int .i64 dB, .slice gp bV.length fZ]] w fun e w' => e = .returned (.bool r) ∧ Below w.heap.size w w' := by
 have Q7 := Try.underlying28
 have yz := Try.underlying26
 have kC := ah.mk jl
 have lM := ah.mk jD
 clear jl jD
 have nO := ah.mk vw
 have t_ := ah.mk vK
 clear vw vK
 have HB := ah.mk (Below.refl w.heap.size w)
 have H : ((aX.f k aQ a_ aY).bind fun t207 => ((aX.f k dw dB bV).bind fun t208 => (if t207 = true then (if t208 = true then (if a_ = 1 then (if dw = aQ then (aZ.j0 k aQ (dB != aQ) aQ a_ aY dw dB bV) else (aZ.j0 k aQ true aQ a_ aY dw dB bV)) else (aZ.j0 k aQ true aQ a_ aY dw dB bV)) else (aZ.j0 k aQ true aQ a_ aY dw dB bV)) else (aZ.j0 k aQ true aQ a_ aY dw dB bV)))) = some r := h
 clear h
 replace H := Option.bind_eq_some_iff.mp H
 obtain ⟨t207, YN, H⟩ := H
 replace H : ((aX.f k dw dB bV).bind fun t208 => (if t207 = true then (if t208 = true then (if a_ = 1 then (if dw = aQ then (aZ.j0 k aQ (dB != aQ) aQ a_ aY dw dB bV) else (aZ.j0 k aQ true aQ a_ aY dw dB bV)) else (aZ.j0 k aQ true aQ a_ aY dw dB bV)) else (aZ.j0 k aQ true aQ a_ aY dw dB bV)) else (aZ.j0 k aQ true aQ a_ aY dw dB bV))) = some r := H
 have A2 := ah.mk YN
 clear YN
 replace H := Option.bind_eq_some_iff.mp H
 obtain ⟨t208, xU, H⟩ := H
 replace H : (if t207 = true then (if t208 = true then (if a_ = 1 then (if dw = aQ then (aZ.j0 k aQ (dB != aQ) aQ a_ aY dw dB bV) else (aZ.j0 k aQ true aQ a_ aY dw dB bV)) else (aZ.j0 k aQ true aQ a_ aY dw dB bV)) else (aZ.j0 k aQ true aQ a_ aY dw dB bV)) else (aZ.j0 k aQ true aQ a_ aY dw dB bV)) = some r := H
 have A3 := ah.mk xU
 clear xU
 have Oy := ah.mk H
 clear H
 go_enter Try.func17, Try.ntmps17
 go_upto_region 4 with (first | ((with_reducible refine dY (N := 1) rfl ?_); refine dH ?hg (N := 1) ?hd (cs := #[.int .i64 aQ, .int .i64 a_, .slice cO aY.length cu, .int .i64 dw, .int .i64 dB, .slice gp bV.length fZ]) (t := 28) ?hr ?_; (case hd => rfl); (case hg => rfl); (case hr => first | (go_simp; done) | (go_simp; rfl)); intro dX hg w5 hbox hb; have bT := ah.mk (aI (by repeat (first | (with_reducible first | exact HB.out | apply au | apply af | apply ak) | exact HB.out)) hb); have dD := ah.mk (hbox); have dQ := ah.mk ((by rw [hg]; exact (aW (by repeat (first | (with_reducible first | exact HB.out | apply au | apply af | apply ak) | exact HB.out))) : w.heap.size ≤ dX)); have eH := ah.mk ((by rw [hg]; exact (aW (by repeat (first | (with_reducible first | exact HB.out | apply au | apply af | apply ak) | exact HB.out))) : w.heap.size ≤ dX)); clear HB; have HB := bT; have bH := dD; have YK := dQ; have pJ := eH; clear bT dD dQ eH; clear hb hbox hg; have tu : w5.cell? ⟨dX, 0, none⟩ = some (.int .i64 aQ) := (aj bH.out 0).trans rfl; have tq : w5.cell? ⟨dX, 1, none⟩ = some (.int .i64 a_) := (aj bH.out 1).trans rfl; have uK : w5.cell? ⟨dX, 2, none⟩ = some (.slice cO aY.length cu) := (aj bH.out 2).trans rfl; have F7 : w5.cell? ⟨dX, 3, none⟩ = some (.int .i64 dw) := (aj bH.out 3).trans rfl; have F6 : w5.cell? ⟨dX, 4, none⟩ = some (.int .i64 dB) := (aj bH.out 4).trans rfl; have FZ : w5.cell? ⟨dX, 5, none⟩ = some (.slice gp bV.length fZ) := (aj bH.out 5).trans rfl; have sV := aA bH.out 0; have sU := aA bH.out 1; have uJ := aA bH.out 2; have FO := aA bH.out 3; have FN := aA bH.out 4; have FM := aA bH.out 5) | (go_at_call 14; (with_reducible refine (aX.calls k aQ a_ _ _ aY t207 _ ?eY ?eX A2.out).mono ?_); (case eY => repeat (first | exact (Kd.fB kC.out HB.out) | (with_reducible refine Kd.fE ?_ _) | (with_reducible refine Kd.fD ?_ _) | (with_reducible refine Kd.gm ?_))); (case eX => exact lM.out); rintro e w7 ⟨rfl, hb⟩; have bT := ah.mk (bg (g := dX) (o := .cells #[.int .i64 aQ, .int .i64 a_, .slice cO aY.length cu, .int .i64 dw, .int .i64 dB, .slice gp bV.length fZ] 28 (0, 0)) (by (with_reducible repeat (first | refine ay ?_ _ | refine aC ?_ | refine az ?_ _)); exact bH.out) hb); have dD := ah.mk (aI (by repeat (first | (with_reducible first | exact HB.out | apply au | apply af | apply ak | refine aG ?_ pJ.out) | exact HB.out)) hb); clear bH; clear HB; have bH := bT; have HB := dD; clear bT dD; (try clear hb); (try clear hb2); (try clear hk); (try clear hi); have CQ : w7.cell? ⟨dX, 0, none⟩ = some (.int .i64 aQ) := (aj bH.out 0).trans rfl; have CO : w7.cell? ⟨dX, 1, none⟩ = some (.int .i64 a_) := (aj bH.out 1).trans rfl; have CJ : w7.cell? ⟨dX, 2, none⟩ = some (.slice cO aY.length cu) := (aj bH.out 2).trans rfl; have FU : w7.cell? ⟨dX, 3, none⟩ = some (.int .i64 dw) := (aj bH.out 3).trans rfl; have FT : w7.cell? ⟨dX, 4, none⟩ = some (.int .i64 dB) := (aj bH.out 4).trans rfl; have FQ : w7.cell? ⟨dX, 5, none⟩ = some (.slice gp bV.length fZ) := (aj bH.out 5).trans rfl; have CG := aA bH.out 0; have CB := aA bH.out 1; have Cm := aA bH.out 2; have FB := aA bH.out 3; have Fz := aA bH.out 4; have Fv := aA bH.out 5) | (go_at_call 14; (with_reducible refine (aX.calls k dw dB _ _ bV t208 _ ?eY ?eX A3.out).mono ?_); (case eY => repeat (first | exact (Kd.fB nO.out HB.out) | (with_reducible refine Kd.fE ?_ _) | (with_reducible refine Kd.fD ?_ _) | (with_reducible refine Kd.gm ?_))); (case eX => exact t_.out); rintro e w9 ⟨rfl, hb⟩; have bT := ah.mk (bg (g := dX) (o := .cells #[.int .i64 aQ, .int .i64 a_, .slice cO aY.length cu, .int .i64 dw, .int .i64 dB, .slice gp bV.length fZ] 28 (0, 0)) (by (with_reducible repeat (first | refine ay ?_ _ | refine aC ?_ | refine az ?_ _)); exact bH.out) hb); have dD := ah.mk (aI (by repeat (first | (with_reducible first | exact HB.out | apply au | apply af | apply ak | refine aG ?_ pJ.out) | exact HB.out)) hb); clear bH; clear HB; have bH := bT; have HB := dD; clear bT dD; (try clear hb); (try clear hb2); (try clear hk); (try clear hi); have pX : w9.cell? ⟨dX, 0, none⟩ = some (.int .i64 aQ) := (aj bH.out 0).trans rfl; have pW : w9.cell? ⟨dX, 1, none⟩ = some (.int .i64 a_) := (aj bH.out 1).trans rfl; have pV : w9.cell? ⟨dX, 2, none⟩ = some (.slice cO aY.length cu) := (aj bH.out 2).trans rfl; have um : w9.cell? ⟨dX, 3, none⟩ = some (.int .i64 dw) := (aj bH.out 3).trans rfl; have uk : w9.cell? ⟨dX, 4, none⟩ = some (.int .i64 dB) := (aj bH.out 4).trans rfl; have uj : w9.cell? ⟨dX, 5, none⟩ = some (.slice gp bV.length fZ) := (aj bH.out 5).trans rfl; have pU := aA bH.out 0; have pR := aA bH.out 1; have pO := aA bH.out 2; have uh := aA bH.out 3; have ug := aA bH.out 4; have uf := aA bH.out 5))
 repeat (go_quiet (first | ((with_reducible refine dY (N := 1) rfl ?_); refine dH ?hg (N := 1) ?hd (cs := #[.int .i64 aQ, .int .i64 a_, .slice cO aY.length cu, .int .i64 dw, .int .i64 dB, .slice gp bV.length fZ]) (t := 28) ?hr ?_; (case hd => rfl); (case hg => rfl); (case hr => first | (go_simp; done) | (go_simp; rfl)); intro dX hg w5 hbox hb; have bT := ah.mk (aI (by repeat (first | (with_reducible first | exact HB.out | apply au | apply af | apply ak) | exact HB.out)) hb); have dD := ah.mk (hbox); have dQ := ah.mk ((by rw [hg]; exact (aW (by repeat (first | (with_reducible first | exact HB.out | apply au | apply af | apply ak) | exact HB.out))) : w.heap.size ≤ dX)); have eH := ah.mk ((by rw [hg]; exact (aW (by repeat (first | (with_reducible first | exact HB.out | apply au | apply af | apply ak) | exact HB.out))) : w.heap.size ≤ dX)); clear HB; have HB := bT; have bH := dD; have YK := dQ; have pJ := eH; clear bT dD dQ eH; clear hb hbox hg; have tu : w5.cell? ⟨dX, 0, none⟩ = some (.int .i64 aQ) := (aj bH.out 0).trans rfl; have tq : w5.cell? ⟨dX, 1, none⟩ = some (.int .i64 a_) := (aj bH.out 1).trans rfl; have uK : w5.cell? ⟨dX, 2, none⟩ = some (.slice cO aY.length cu) := (aj bH.out 2).trans rfl; have F7 : w5.cell? ⟨dX, 3, none⟩ = some (.int .i64 dw) := (aj bH.out 3).trans rfl; have F6 : w5.cell? ⟨dX, 4, none⟩ = some (.int .i64 dB) := (aj bH.out 4).trans rfl; have FZ : w5.cell? ⟨dX, 5, none⟩ = some (.slice gp bV.length fZ) := (aj bH.out 5).trans rfl; have sV := aA bH.out 0; have sU := aA bH.out 1; have uJ := aA bH.out 2; have FO := aA bH.out 3; have FN := aA bH.out 4; have FM := aA bH.out 5) | (go_at_call 14; (with_reducible refine (aX.calls k aQ a_ _ _ aY t207 _ ?eY ?eX A2.out).mono ?_); (case eY => repeat (first | exact (Kd.fB kC.out HB.out) | (with_reducible refine Kd.fE ?_ _) | (with_reducible refine Kd.fD ?_ _) | (with_reducible refine Kd.gm ?_))); (case eX => exact lM.out); rintro e w7 ⟨rfl, hb⟩; have bT := ah.mk (bg (g := dX) (o := .cells #[.int .i64 aQ, .int .i64 a_, .slice cO aY.length cu, .int .i64 dw, .int .i64 dB, .slice gp bV.length fZ] 28 (0, 0)) (by (with_reducible repeat (first | refine ay ?_ _ | refine aC ?_ | refine az ?_ _)); exact bH.out) hb); have dD := ah.mk (aI (by repeat (first | (with_reducible first | exact HB.out | apply au | apply af | apply ak | refine aG ?_ pJ.out) | exact HB.out)) hb); clear bH; clear HB; have bH := bT; have HB := dD; clear bT dD; (try clear hb); (try clear hb2); (try clear hk); (try clear hi); have CQ : w7.cell? ⟨dX, 0, none⟩ = some (.int .i64 aQ) := (aj bH.out 0).trans rfl; have CO : w7.cell? ⟨dX, 1, none⟩ = some (.int .i64 a_) := (aj bH.out 1).trans rfl; have CJ : w7.cell? ⟨dX, 2, none⟩ = some (.slice cO aY.length cu) := (aj bH.out 2).trans rfl; have FU : w7.cell? ⟨dX, 3, none⟩ = some (.int .i64 dw) := (aj bH.out 3).trans rfl; have FT : w7.cell? ⟨dX, 4, none⟩ = some (.int .i64 dB) := (aj bH.out 4).trans rfl; have FQ : w7.cell? ⟨dX, 5, none⟩ = some (.slice gp bV.length fZ) := (aj bH.out 5).trans rfl; have CG := aA bH.out 0; have CB := aA bH.out 1; have Cm := aA bH.out 2; have FB := aA bH.out 3; have Fz := aA bH.out 4; have Fv := aA bH.out 5) | (go_at_call 14; (with_reducible refine (aX.calls k dw dB _ _ bV t208 _ ?eY ?eX A3.out).mono ?_); (case eY => repeat (first | exact (Kd.fB nO.out HB.out) | (with_reducible refine Kd.fE ?_ _) | (with_reducible refine Kd.fD ?_ _) | (with_reducible refine Kd.gm ?_))); (case eX => exact t_.out); rintro e w9 ⟨rfl, hb⟩; have bT := ah.mk (bg (g := dX) (o := .cells #[.int .i64 aQ, .int .i64 a_, .slice cO aY.length cu, .int .i64 dw, .int .i64 dB, .slice gp bV.length fZ] 28 (0, 0)) (by (with_reducible repeat (first | refine ay ?_ _ | refine aC ?_ | refine az ?_ _)); exact bH.out) hb); have dD := ah.mk (aI (by repeat (first | (with_reducible first | exact HB.out | apply au | apply af | apply ak | refine aG ?_ pJ.out) | exact HB.out)) hb); clear bH; clear HB; have bH := bT; have HB := dD; clear bT dD; (try clear hb); (try clear hb2); (try clear hk); (try clear hi); have pX : w9.cell? ⟨dX, 0, none⟩ = some (.int .i64 aQ) := (aj bH.out 0).trans rfl; have pW : w9.cell? ⟨dX, 1, none⟩ = some (.int .i64 a_) := (aj bH.out 1).trans rfl; have pV : w9.cell? ⟨dX, 2, none⟩ = some (.slice cO aY.length cu) := (aj bH.out 2).trans rfl; have um : w9.cell? ⟨dX, 3, none⟩ = some (.int .i64 dw) := (aj bH.out 3).trans rfl; have uk : w9.cell? ⟨dX, 4, none⟩ = some (.int .i64 dB) := (aj bH.out 4).trans rfl; have uj : w9.cell? ⟨dX, 5, none⟩ = some (.slice gp bV.length fZ) := (aj bH.out 5).trans rfl; have pU := aA bH.out 0; have pR := aA bH.out 1; have pO := aA bH.out 2; have uh := aA bH.out 3; have ug := aA bH.out 4; have uf := aA bH.out 5)); go_upto_region 4 with (first | ((with_reducible refine dY (N := 1) rfl ?_); refine dH ?hg (N := 1) ?hd (cs := #[.int .i64 aQ, .int .i64 a_, .slice cO aY.length cu, .int .i64 dw, .int .i64 dB, .slice gp bV.length fZ]) (t := 28) ?hr ?_; (case hd => rfl); (case hg => rfl); (case hr => first | (go_simp; done) | (go_simp; rfl)); intro dX hg w5 hbox hb; have bT := ah.mk (aI (by repeat (first | (with_reducible first | exact HB.out | apply au | apply af | apply ak) | exact HB.out)) hb); have dD := ah.mk (hbox); have dQ := ah.mk ((by rw [hg]; exact (aW (by repeat (first | (with_reducible first | exact HB.out | apply au | apply af | apply ak) | exact HB.out))) : w.heap.size ≤ dX)); have eH := ah.mk ((by rw [hg]; exact (aW (by repeat (first | (with_reducible first | exact HB.out | apply au | apply af | apply ak) | exact HB.out))) : w.heap.size ≤ dX)); clear HB; have HB := bT; have bH := dD; have YK := dQ; have pJ := eH; clear bT dD dQ eH; clear hb hbox hg; have tu : w5.cell? ⟨dX, 0, none⟩ = some (.int .i64 aQ) := (aj bH.out 0).trans rfl; have tq : w5.cell? ⟨dX, 1, none⟩ = some (.int .i64 a_) := (aj bH.out 1).trans rfl; have uK : w5.cell? ⟨dX, 2, none⟩ = some (.slice cO aY.length cu) := (aj bH.out 2).trans rfl; have F7 : w5.cell? ⟨dX, 3, none⟩ = some (.int .i64 dw) := (aj bH.out 3).trans rfl; have F6 : w5.cell? ⟨dX, 4, none⟩ = some (.int .i64 dB) := (aj bH.out 4).trans rfl; have FZ : w5.cell? ⟨dX, 5, none⟩ = some (.slice gp bV.length fZ) := (aj bH.out 5).trans rfl; have sV := aA bH.out 0; have sU := aA bH.out 1; have uJ := aA bH.out 2; have FO := aA bH.out 3; have FN := aA bH.out 4; have FM := aA bH.out 5) | (go_at_call 14; (with_reducible refine (aX.calls k aQ a_ _ _ aY t207 _ ?eY ?eX A2.out).mono ?_); (case eY => repeat (first | exact (Kd.fB kC.out HB.out) | (with_reducible refine Kd.fE ?_ _) | (with_reducible refine Kd.fD ?_ _) | (with_reducible refine Kd.gm ?_))); (case eX => exact lM.out); rintro e w7 ⟨rfl, hb⟩; have bT := ah.mk (bg (g := dX) (o := .cells #[.int .i64 aQ, .int .i64 a_, .slice cO aY.length cu, .int .i64 dw, .int .i64 dB, .slice gp bV.length fZ] 28 (0, 0)) (by (with_reducible repeat (first | refine ay ?_ _ | refine aC ?_ | refine az ?_ _)); exact bH.out) hb); have dD := ah.mk (aI (by repeat (first | (with_reducible first | exact HB.out | apply au | apply af | apply ak | refine aG ?_ pJ.out) | exact HB.out)) hb); clear bH; clear HB; have bH := bT; have HB := dD; clear bT dD; (try clear hb); (try clear hb2); (try clear hk); (try clear hi); have CQ : w7.cell? ⟨dX, 0, none⟩ = some (.int .i64 aQ) := (aj bH.out 0).trans rfl; have CO : w7.cell? ⟨dX, 1, none⟩ = some (.int .i64 a_) := (aj bH.out 1).trans rfl; have CJ : w7.cell? ⟨dX, 2, none⟩ = some (.slice cO aY.length cu) := (aj bH.out 2).trans rfl; have FU : w7.cell? ⟨dX, 3, none⟩ = some (.int .i64 dw) := (aj bH.out 3).trans rfl; have FT : w7.cell? ⟨dX, 4, none⟩ = some (.int .i64 dB) := (aj bH.out 4).trans rfl; have FQ : w7.cell? ⟨dX, 5, none⟩ = some (.slice gp bV.length fZ) := (aj bH.out 5).trans rfl; have CG := aA bH.out 0; have CB := aA bH.out 1; have Cm := aA bH.out 2; have FB := aA bH.out 3; have Fz := aA bH.out 4; have Fv := aA bH.out 5) | (go_at_call 14; (with_reducible refine (aX.calls k dw dB _ _ bV t208 _ ?eY ?eX A3.out).mono ?_); (case eY => repeat (first | exact (Kd.fB nO.out HB.out) | (with_reducible refine Kd.fE ?_ _) | (with_reducible refine Kd.fD ?_ _) | (with_reducible refine Kd.gm ?_))); (case eX => exact t_.out); rintro e w9 ⟨rfl, hb⟩; have bT := ah.mk (bg (g := dX) (o := .cells #[.int .i64 aQ, .int .i64 a_, .slice cO aY.length cu, .int .i64 dw, .int .i64 dB, .slice gp bV.length fZ] 28 (0, 0)) (by (with_reducible repeat (first | refine ay ?_ _ | refine aC ?_ | refine az ?_ _)); exact bH.out) hb); have dD := ah.mk (aI (by repeat (first | (with_reducible first | exact HB.out | apply au | apply af | apply ak | refine aG ?_ pJ.out) | exact HB.out)) hb); clear bH; clear HB; have bH := bT; have HB := dD; clear bT dD; (try clear hb); (try clear hb2); (try clear hk); (try clear hi); have pX : w9.cell? ⟨dX, 0, none⟩ = some (.int .i64 aQ) := (aj bH.out 0).trans rfl; have pW : w9.cell? ⟨dX, 1, none⟩ = some (.int .i64 a_) := (aj bH.out 1).trans rfl; have pV : w9.cell? ⟨dX, 2, none⟩ = some (.slice cO aY.length cu) := (aj bH.out 2).trans rfl; have um : w9.cell? ⟨dX, 3, none⟩ = some (.int .i64 dw) := (aj bH.out 3).trans rfl; have uk : w9.cell? ⟨dX, 4, none⟩ = some (.int .i64 dB) := (aj bH.out 4).trans rfl; have uj : w9.cell? ⟨dX, 5, none⟩ = some (.slice gp bV.length fZ) := (aj bH.out 5).trans rfl; have pU := aA bH.out 0; have pR := aA bH.out 1; have pO := aA bH.out 2; have uh := aA bH.out 3; have ug := aA bH.out 4; have uf := aA bH.out 5)))
 (try simp only [Act.put, List.setIfInBounds_toArray, List.set_cons_zero, List.set_cons_succ])
 go_cut [42] (fun v42 wc => ∃ (kq : Nat) (OG : Bool), v42 = .bool OG ∧ ah (aZ.j0 kq aQ OG aQ a_ aY dw dB bV = some r) ∧ ah (kq ≤ k) ∧ ah (wc.heap[dX]? = some (.cells #[.int .i64 aQ, .int .i64 a_, (.slice cO aY.length cu), .int .i64 dw, .int .i64 dB, (.slice gp bV.length fZ)] 28 (0, 0))) ∧ ah (Below w.heap.size w wc))
 case first =>
  have H := Oy.out
  clear Oy
  by_cases c11 : t207 = true
  · subst c11
    rw [if_pos rfl] at H
    by_cases c12 : t208 = true
    · subst c12
      rw [if_pos rfl] at H
      by_cases c13 : a_ = 1
      · rw [if_pos c13] at H
        have tN : (a_ == 1) = true := beq_iff_eq.mpr c13
        have Ig : (a_ != 1) = false := bne_eq_false_iff_eq.mpr c13
        clear c13
        (first | rw [tN] | (simp only [aJ, aK]; rw [tN]) | skip)
        by_cases c14 : dw = aQ
        · rw [if_pos c14] at H
          have oQ : (dw == aQ) = true := beq_iff_eq.mpr c14
          have vO : (dw != aQ) = false := bne_eq_false_iff_eq.mpr c14
          clear c14
          have H' := ah.mk H
          clear H
          have zC : w9.cell? ⟨dX, 0, none⟩ = some (.int .i64 aQ) := (aj bH.out 0).trans rfl
          have zB : w9.cell? ⟨dX, 1, none⟩ = some (.int .i64 a_) := (aj bH.out 1).trans rfl
          have zA : w9.cell? ⟨dX, 2, none⟩ = some (.slice cO aY.length cu) := (aj bH.out 2).trans rfl
          have JC : w9.cell? ⟨dX, 3, none⟩ = some (.int .i64 dw) := (aj bH.out 3).trans rfl
          have JB : w9.cell? ⟨dX, 4, none⟩ = some (.int .i64 dB) := (aj bH.out 4).trans rfl
          have JA : w9.cell? ⟨dX, 5, none⟩ = some (.slice gp bV.length fZ) := (aj bH.out 5).trans rfl
          have zo := aA bH.out 0
          have zn := aA bH.out 1
          have zl := aA bH.out 2
          have Jr := aA bH.out 3
          have Jq := aA bH.out 4
          have Jp := aA bH.out 5
          go_wp2
          repeat (go_quiet (fail); try go_wp2)
          go_meet
          case rel => exact ⟨_, ((dB != aQ)), (by first | rfl | (simp; done) | (simp [*]; done)), H', ⟨by first | omega | exact Nat.le_refl _⟩, ⟨by (with_reducible repeat (first | refine ay ?_ _ | refine aC ?_ | refine az ?_ _)); exact bH.out⟩, ⟨by repeat (first | (with_reducible first | exact HB.out | apply au | apply af | apply ak | refine aG ?_ pJ.out) | exact HB.out)⟩⟩
        · rw [if_neg c14] at H
          have oQ : (dw == aQ) = false := beq_eq_false_iff_ne.mpr c14
          have vO : (dw != aQ) = true := bne_iff_ne.mpr c14
          have H' := ah.mk H
          clear H
          have zy : w9.cell? ⟨dX, 0, none⟩ = some (.int .i64 aQ) := (aj bH.out 0).trans rfl
          have zx : w9.cell? ⟨dX, 1, none⟩ = some (.int .i64 a_) := (aj bH.out 1).trans rfl
          have zq : w9.cell? ⟨dX, 2, none⟩ = some (.slice cO aY.length cu) := (aj bH.out 2).trans rfl
          have Jz : w9.cell? ⟨dX, 3, none⟩ = some (.int .i64 dw) := (aj bH.out 3).trans rfl
          have Jy : w9.cell? ⟨dX, 4, none⟩ = some (.int .i64 dB) := (aj bH.out 4).trans rfl
          have Jw : w9.cell? ⟨dX, 5, none⟩ = some (.slice gp bV.length fZ) := (aj bH.out 5).trans rfl
          have zk := aA bH.out 0
          have zi := aA bH.out 1
          have zh := aA bH.out 2
          have Jo := aA bH.out 3
          have Jn := aA bH.out 4
          have Jm := aA bH.out 5
          go_wp2
          repeat (go_quiet (fail); try go_wp2)
          go_meet
          case rel => exact ⟨_, (true), (by first | rfl | (simp; done) | (simp [*]; done)), H', ⟨by first | omega | exact Nat.le_refl _⟩, ⟨by (with_reducible repeat (first | refine ay ?_ _ | refine aC ?_ | refine az ?_ _)); exact bH.out⟩, ⟨by repeat (first | (with_reducible first | exact HB.out | apply au | apply af | apply ak | refine aG ?_ pJ.out) | exact HB.out)⟩⟩
      · rw [if_neg c13] at H
        have tN : (a_ == 1) = false := beq_eq_false_iff_ne.mpr c13
        have Ig : (a_ != 1) = true := bne_iff_ne.mpr c13
        (first | rw [tN] | (simp only [aJ, aK]; rw [tN]) | skip)
        have H' := ah.mk H
        clear H
        have Bo : w9.cell? ⟨dX, 0, none⟩ = some (.int .i64 aQ) := (aj bH.out 0).trans rfl
        have Bl : w9.cell? ⟨dX, 1, none⟩ = some (.int .i64 a_) := (aj bH.out 1).trans rfl
        have Bj : w9.cell? ⟨dX, 2, none⟩ = some (.slice cO aY.length cu) := (aj bH.out 2).trans rfl
        have Jv : w9.cell? ⟨dX, 3, none⟩ = some (.int .i64 dw) := (aj bH.out 3).trans rfl
        have Ju : w9.cell? ⟨dX, 4, none⟩ = some (.int .i64 dB) := (aj bH.out 4).trans rfl
        have Jt : w9.cell? ⟨dX, 5, none⟩ = some (.slice gp bV.length fZ) := (aj bH.out 5).trans rfl
        have Bi := aA bH.out 0
        have Bh := aA bH.out 1
        have Bg := aA bH.out 2
        have Jl := aA bH.out 3
        have Jk := aA bH.out 4
        have Jj := aA bH.out 5
        go_wp2
        repeat (go_quiet (fail); try go_wp2)
        go_meet
        case rel => exact ⟨_, (true), (by first | rfl | (simp; done) | (simp [*]; done)), H', ⟨by first | omega | exact Nat.le_refl _⟩, ⟨by (with_reducible repeat (first | refine ay ?_ _ | refine aC ?_ | refine az ?_ _)); exact bH.out⟩, ⟨by repeat (first | (with_reducible first | exact HB.out | apply au | apply af | apply ak | refine aG ?_ pJ.out) | exact HB.out)⟩⟩
    · replace c12 := Bool.eq_false_iff.mpr c12
      subst c12
      have H1 : (aZ.j0 k aQ true aQ a_ aY dw dB bV) = some r := by rw [if_neg (show ¬ (false = true) by decide)] at H; exact H
      clear H
      have H := H1
      clear H1
      have H' := ah.mk H
      clear H
      go_wp2
      repeat (go_quiet (fail); try go_wp2)
      go_meet
      case rel => exact ⟨_, (true), (by first | rfl | (simp; done) | (simp [*]; done)), H', ⟨by first | omega | exact Nat.le_refl _⟩, ⟨by (with_reducible repeat (first | refine ay ?_ _ | refine aC ?_ | refine az ?_ _)); exact bH.out⟩, ⟨by repeat (first | (with_reducible first | exact HB.out | apply au | apply af | apply ak | refine aG ?_ pJ.out) | exact HB.out)⟩⟩
  · replace c11 := Bool.eq_false_iff.mpr c11
    subst c11
    have H1 : (aZ.j0 k aQ true aQ a_ aY dw dB bV) = some r := by rw [if_neg (show ¬ (false = true) by decide)] at H; exact H
    clear H
    have H := H1
    clear H1
    have H' := ah.mk H
    clear H
    go_wp2
    repeat (go_quiet (fail); try go_wp2)
    go_meet
    case rel => exact ⟨_, (true), (by first | rfl | (simp; done) | (simp [*]; done)), H', ⟨by first | omega | exact Nat.le_refl _⟩, ⟨by (with_reducible repeat (first | refine ay ?_ _ | refine aC ?_ | refine az ?_ _)); exact bH.out⟩, ⟨by repeat (first | (with_reducible first | exact HB.out | apply au | apply af | apply ak | refine aG ?_ pJ.out) | exact HB.out)⟩⟩
 case rest =>
  clear Oy
  try clear c1
  try clear p2
  try clear c11
  try clear c12
  try clear c13
  try clear tN
  try clear Ig
  try clear c14
  try clear oQ
  try clear vO
  try clear c17
  try clear pX
  try clear pW
  try clear pV
  try clear um
  try clear uk
  try clear uj
  try clear zC
  try clear zB
  try clear zA
  try clear JC
  try clear JB
  try clear JA
  try clear zy
  try clear zx
  try clear zq
  try clear Jz
  try clear Jy
  try clear Jw
  try clear Bo
  try clear Bl
  try clear Bj
  try clear Jv
  try clear Ju
  try clear Jt
  try clear tu
  try clear tq
  try clear uK
  try clear F7
  try clear F6
  try clear FZ
  try clear CQ
  try clear CO
  try clear CJ
  try clear FU
  try clear FT
  try clear FQ
  try clear pU
  try clear pR
  try clear pO
  try clear uh
  try clear ug
  try clear uf
  try clear zo
  try clear zn
  try clear zl
  try clear Jr
  try clear Jq
  try clear Jp
  try clear zk
  try clear zi
  try clear zh
  try clear Jo
  try clear Jn
  try clear Jm
  try clear Bi
  try clear Bh
  try clear Bg
  try clear Jl
  try clear Jk
  try clear Jj
  try clear sV
  try clear sU
  try clear uJ
  try clear FO
  try clear FN
  try clear FM
  try clear CG
  try clear CB
  try clear Cm
  try clear FB
  try clear Fz
  try clear Fv
  obtain ⟨kq, OG, rfl, HA, UK, bH, HB⟩ := hcut
  cases kq with
  | zero => exact absurd HA.out (by simp [aZ.j0])
  | succ TC =>
    have H := HA.out
    clear HA
    simp only [aZ.j0] at H
    by_cases c18 : OG = true
    · subst c18
      rw [if_pos rfl] at H
      obtain rfl := Option.some.inj H
      go_wp2
      repeat (go_quiet (fail); try go_wp2)
      go_ret
      exact ⟨by first | rfl | (simp [aU, aT] <;> rfl) | (simp [*, aU, aT] <;> rfl), by repeat (first | (with_reducible first | exact HB.out | apply au | apply af | apply ak | refine aG ?_ pJ.out) | exact HB.out)⟩
    · replace c18 := Bool.eq_false_iff.mpr c18
      subst c18
      have H1 : (aZ.l0 TC aQ 0 aQ a_ aY dw dB bV) = some r := by rw [if_neg (show ¬ (false = true) by decide)] at H; exact H
      clear H
      have H := H1
      clear H1
      have H' := ah.mk H
      clear H
      go_wp2
      repeat (go_quiet (fail); try go_wp2)
      go_loopg [6] TC (fun kq v6 w' => ∃ (iL : Int), v6 = .int .i64 iL ∧ ah (aZ.l0 kq aQ iL aQ a_ aY dw dB bV = some r) ∧ ah (kq ≤ TC) ∧ ah (w'.heap[dX]? = some (.cells #[.int .i64 aQ, .int .i64 a_, (.slice cO aY.length cu), .int .i64 dw, .int .i64 dB, (.slice gp bV.length fZ)] 28 (0, 0))) ∧ ah (Below w.heap.size w w'))
      case atStart => exact ⟨(0), (by first | rfl | (simp; done) | (simp [*]; done)), H', ⟨Nat.le_refl _⟩, ⟨by (with_reducible repeat (first | refine ay ?_ _ | refine aC ?_ | refine az ?_ _)); exact bH.out⟩, ⟨by repeat (first | (with_reducible first | exact HB.out | apply au | apply af | apply ak | refine aG ?_ pJ.out) | exact HB.out)⟩⟩
      case round =>
       clear H'
       try clear c1
       try clear p2
       try clear c11
       try clear c12
       try clear c13
       try clear tN
       try clear Ig
       try clear c14
       try clear oQ
       try clear vO
       try clear c17
       try clear c18
       try clear pX
       try clear pW
       try clear pV
       try clear um
       try clear uk
       try clear uj
       try clear zC
       try clear zB
       try clear zA
       try clear JC
       try clear JB
       try clear JA
       try clear zy
       try clear zx
       try clear zq
       try clear Jz
       try clear Jy
       try clear Jw
       try clear Bo
       try clear Bl
       try clear Bj
       try clear Jv
       try clear Ju
       try clear Jt
       try clear tu
       try clear tq
       try clear uK
       try clear F7
       try clear F6
       try clear FZ
       try clear CQ
       try clear CO
       try clear CJ
       try clear FU
       try clear FT
       try clear FQ
       try clear pU
       try clear pR
       try clear pO
       try clear uh
       try clear ug
       try clear uf
       try clear zo
       try clear zn
       try clear zl
       try clear Jr
       try clear Jq
       try clear Jp
       try clear zk
       try clear zi
       try clear zh
       try clear Jo
       try clear Jn
       try clear Jm
       try clear Bi
       try clear Bh
       try clear Bg
       try clear Jl
       try clear Jk
       try clear Jj
       try clear sV
       try clear sU
       try clear uJ
       try clear FO
       try clear FN
       try clear FM
       try clear CG
       try clear CB
       try clear Cm
       try clear FB
       try clear Fz
       try clear Fv
       try clear p2
       obtain ⟨iL, rfl, HA, yN, bH, HB⟩ := hrel
       cases gk with
       | zero => exact absurd HA.out (by simp [aZ.l0])
       | succ k2 =>
         have H := HA.out
         clear HA
         simp only [aZ.l0] at H
         by_cases c19 : iL < aQ
         · rw [if_pos c19] at H
           have LV : decide (iL < aQ) = true := decide_eq_true c19
           clear c19
           obtain ⟨yx, Lj⟩ : ∃ j_ : Int, (wrap64 ((wrap64 (iL * aQ)) + iL)) = j_ := ⟨_, rfl⟩
           replace H : (if 0 ≤ (yx) then (if (yx) < (bV.length : Int) then (if (rd bV (yx)) < 0 then (some false) else (aZ.l1 k2 aQ iL 0 aQ a_ aY dw dB bV)) else (none)) else (none)) = some r := by first | (rw [Lj] at H; exact H) | (simp only [Lj] at H ⊢; exact H)
           have aik : (IntKind.i64.wrap ((wrap64 (iL * aQ)) + iL)) = yx := (aJ _).trans Lj
           by_cases c21 : 0 ≤ (yx)
           · rw [if_pos c21] at H
             have vN : decide (0 ≤ (yx)) = true := decide_eq_true c21
             clear c21
             by_cases RU : (yx) < (bV.length : Int)
             · rw [if_pos RU] at H
               have abN : decide ((yx) < (bV.length : Int)) = true := decide_eq_true RU
               clear RU
               by_cases c23 : (rd bV (yx)) < 0
               · rw [if_pos c23] at H
                 have DW : decide ((rd bV (yx)) < 0) = true := decide_eq_true c23
                 clear c23
                 obtain rfl := Option.some.inj H
                 have EG : wr.cell? ⟨dX, 0, none⟩ = some (.int .i64 aQ) := (aj bH.out 0).trans rfl
                 have EF : wr.cell? ⟨dX, 1, none⟩ = some (.int .i64 a_) := (aj bH.out 1).trans rfl
                 have EE : wr.cell? ⟨dX, 2, none⟩ = some (.slice cO aY.length cu) := (aj bH.out 2).trans rfl
                 have P_ : wr.cell? ⟨dX, 3, none⟩ = some (.int .i64 dw) := (aj bH.out 3).trans rfl
                 have P9 : wr.cell? ⟨dX, 4, none⟩ = some (.int .i64 dB) := (aj bH.out 4).trans rfl
                 have P8 : wr.cell? ⟨dX, 5, none⟩ = some (.slice gp bV.length fZ) := (aj bH.out 5).trans rfl
                 have Ey := aA bH.out 0
                 have Ew := aA bH.out 1
                 have Eu := aA bH.out 2
                 have PL := aA bH.out 3
                 have PK := aA bH.out 4
                 have PI := aA bH.out 5
                 have KA : 0 ≤ ((yx) : Int) := of_decide_eq_true (by first | (with_reducible assumption) | assumption)
                 have Kz : (yx) < (bV.length : Int) := of_decide_eq_true (by first | (with_reducible assumption) | assumption)
                 obtain ⟨D5, e209, vk⟩ := Kd.jv nO.out (yx) KA Kz
                 cases e209
                 replace vk := (HB.out.cell (World.block_lt_of_cell? w _ vk)).trans vk
                 replace KA := eq_true KA
                 replace Kz := eq_true Kz
                 go_wp2
                 repeat (go_quiet (fail); try go_wp2)
                 go_ret
                 exact ⟨by first | rfl | (simp [aU, aT] <;> rfl) | (simp only [← Lj]; first | rfl | (simp [aU, aT] <;> rfl)) | (simp [*, aU, aT] <;> rfl), by repeat (first | (with_reducible first | exact HB.out | apply au | apply af | apply ak | refine aG ?_ pJ.out) | exact HB.out)⟩
               · rw [if_neg c23] at H
                 have DW : decide ((rd bV (yx)) < 0) = false := decide_eq_false c23
                 clear c23
                 have H' := ah.mk H
                 clear H
                 have P7 : wr.cell? ⟨dX, 0, none⟩ = some (.int .i64 aQ) := (aj bH.out 0).trans rfl
                 have P6 : wr.cell? ⟨dX, 1, none⟩ = some (.int .i64 a_) := (aj bH.out 1).trans rfl
                 have P5 : wr.cell? ⟨dX, 2, none⟩ = some (.slice cO aY.length cu) := (aj bH.out 2).trans rfl
                 have Xa : wr.cell? ⟨dX, 3, none⟩ = some (.int .i64 dw) := (aj bH.out 3).trans rfl
                 have W_ : wr.cell? ⟨dX, 4, none⟩ = some (.int .i64 dB) := (aj bH.out 4).trans rfl
                 have W9 : wr.cell? ⟨dX, 5, none⟩ = some (.slice gp bV.length fZ) := (aj bH.out 5).trans rfl
                 have PG := aA bH.out 0
                 have PE := aA bH.out 1
                 have PD := aA bH.out 2
                 have V6 := aA bH.out 3
                 have V5 := aA bH.out 4
                 have V4 := aA bH.out 5
                 have KA : 0 ≤ ((yx) : Int) := of_decide_eq_true (by first | (with_reducible assumption) | assumption)
                 have Kz : (yx) < (bV.length : Int) := of_decide_eq_true (by first | (with_reducible assumption) | assumption)
                 obtain ⟨D5, e209, vk⟩ := Kd.jv nO.out (yx) KA Kz
                 cases e209
                 replace vk := (HB.out.cell (World.block_lt_of_cell? w _ vk)).trans vk
                 replace KA := eq_true KA
                 replace Kz := eq_true Kz
                 go_wp2
                 repeat (go_quiet (fail); try go_wp2)
                 go_loopg [7] k2 (fun kq v7 w' => ∃ (wo : Int), v7 = .int .i64 wo ∧ ah (aZ.l1 kq aQ iL wo aQ a_ aY dw dB bV = some r) ∧ ah (kq ≤ k2) ∧ ah (w'.heap[dX]? = some (.cells #[.int .i64 aQ, .int .i64 a_, (.slice cO aY.length cu), .int .i64 dw, .int .i64 dB, (.slice (some D5) bV.length fZ)] 28 (0, 0))) ∧ ah (Below w.heap.size w w'))
                 case atStart => exact ⟨(0), (by first | rfl | (simp; done) | (simp [*]; done)), H', ⟨Nat.le_refl _⟩, ⟨by (with_reducible repeat (first | refine ay ?_ _ | refine aC ?_ | refine az ?_ _)); exact bH.out⟩, ⟨by repeat (first | (with_reducible first | exact HB.out | apply au | apply af | apply ak | refine aG ?_ pJ.out) | exact HB.out)⟩⟩
                 case round =>
                  clear H'
                  try clear c1
                  try clear c2
                  try clear p2
                  try clear q2
                  try clear hx2
                  try clear p6
                  try clear c11
                  try clear c12
                  try clear c13
                  try clear tN
                  try clear Ig
                  try clear c14
                  try clear oQ
                  try clear vO
                  try clear c17
                  try clear c18
                  try clear c19
                  try clear LV
                  try clear p20
                  try clear q20
                  try clear anl
                  try clear c21
                  try clear vN
                  try clear RU
                  try clear abN
                  try clear c23
                  try clear DW
                  try clear pX
                  try clear pW
                  try clear pV
                  try clear um
                  try clear uk
                  try clear uj
                  try clear zC
                  try clear zB
                  try clear zA
                  try clear JC
                  try clear JB
                  try clear JA
                  try clear zy
                  try clear zx
                  try clear zq
                  try clear Jz
                  try clear Jy
                  try clear Jw
                  try clear Bo
                  try clear Bl
                  try clear Bj
                  try clear Jv
                  try clear Ju
                  try clear Jt
                  try clear EG
                  try clear EF
                  try clear EE
                  try clear P_
                  try clear P9
                  try clear P8
                  try clear P7
                  try clear P6
                  try clear P5
                  try clear Xa
                  try clear W_
                  try clear W9
                  try clear tu
                  try clear tq
                  try clear uK
                  try clear F7
                  try clear F6
                  try clear FZ
                  try clear CQ
                  try clear CO
                  try clear CJ
                  try clear FU
                  try clear FT
                  try clear FQ
                  try clear pU
                  try clear pR
                  try clear pO
                  try clear uh
                  try clear ug
                  try clear uf
                  try clear zo
                  try clear zn
                  try clear zl
                  try clear Jr
                  try clear Jq
                  try clear Jp
                  try clear zk
                  try clear zi
                  try clear zh
                  try clear Jo
                  try clear Jn
                  try clear Jm
                  try clear Bi
                  try clear Bh
                  try clear Bg
                  try clear Jl
                  try clear Jk
                  try clear Jj
                  try clear Ey
                  try clear Ew
                  try clear Eu
                  try clear PL
                  try clear PK
                  try clear PI
                  try clear PG
                  try clear PE
                  try clear PD
                  try clear V6
                  try clear V5
                  try clear V4
                  try clear sV
                  try clear sU
                  try clear uJ
                  try clear FO
                  try clear FN
                  try clear FM
                  try clear CG
                  try clear CB
                  try clear Cm
                  try clear FB
                  try clear Fz
                  try clear Fv
                  try clear vk
                  try clear p2
                  try clear KA
                  try clear Kz
                  obtain ⟨wo, rfl, HA, HK3, bH, HB⟩ := hrel
                  cases gk with
                  | zero => exact absurd HA.out (by simp [aZ.l1])
                  | succ k3 =>
                    have H := HA.out
                    clear HA
                    simp only [aZ.l1] at H
                    by_cases JP : wo < iL
                    · rw [if_pos JP] at H
                      have BH : decide (wo < iL) = true := decide_eq_true JP
                      clear JP
                      obtain ⟨wJ, Pn⟩ : ∃ j_ : Int, (wrap64 ((wrap64 (iL * aQ)) + wo)) = j_ := ⟨_, rfl⟩
                      replace H : (if 0 ≤ (wJ) then (if (wJ) < (bV.length : Int) then (if 0 ≤ (wrap64 ((wrap64 (wo * aQ)) + iL)) then (if (wrap64 ((wrap64 (wo * aQ)) + iL)) < (bV.length : Int) then (if (rd bV (wJ)) = (rd bV (wrap64 ((wrap64 (wo * aQ)) + iL))) then (aZ.l1 k3 aQ iL (wrap64 (wo + 1)) aQ a_ aY dw dB bV) else (some false)) else (none)) else (none)) else (none)) else (none)) = some r := by first | (rw [Pn] at H; exact H) | (simp only [Pn] at H ⊢; exact H)
                      have aii : (IntKind.i64.wrap ((wrap64 (iL * aQ)) + wo)) = wJ := (aJ _).trans Pn
                      by_cases c28 : 0 ≤ (wJ)
                      · rw [if_pos c28] at H
                        have Yu : decide (0 ≤ (wJ)) = true := decide_eq_true c28
                        clear c28
                        by_cases c29 : (wJ) < (bV.length : Int)
                        · rw [if_pos c29] at H
                          have abK : decide ((wJ) < (bV.length : Int)) = true := decide_eq_true c29
                          clear c29
                          obtain ⟨uG, zT⟩ : ∃ j_ : Int, (wrap64 ((wrap64 (wo * aQ)) + iL)) = j_ := ⟨_, rfl⟩
                          replace H : (if 0 ≤ (uG) then (if (uG) < (bV.length : Int) then (if (rd bV (wJ)) = (rd bV (uG)) then (aZ.l1 k3 aQ iL (wrap64 (wo + 1)) aQ a_ aY dw dB bV) else (some false)) else (none)) else (none)) = some r := by first | (rw [zT] at H; exact H) | (simp only [zT] at H ⊢; exact H)
                          have aif : (IntKind.i64.wrap ((wrap64 (wo * aQ)) + iL)) = uG := (aJ _).trans zT
                          by_cases c31 : 0 ≤ (uG)
                          · rw [if_pos c31] at H
                            have abJ : decide (0 ≤ (uG)) = true := decide_eq_true c31
                            clear c31
                            by_cases c32 : (uG) < (bV.length : Int)
                            · rw [if_pos c32] at H
                              have alv : decide ((uG) < (bV.length : Int)) = true := decide_eq_true c32
                              clear c32
                              by_cases SB : (rd bV (wJ)) = (rd bV (uG))
                              · rw [if_pos SB] at H
                                have abI : ((rd bV (wJ)) == (rd bV (uG))) = true := beq_iff_eq.mpr SB
                                have abH : ((rd bV (wJ)) != (rd bV (uG))) = false := bne_eq_false_iff_eq.mpr SB
                                clear SB
                                have H' := ah.mk H
                                clear H
                                have agV : wr.cell? ⟨dX, 0, none⟩ = some (.int .i64 aQ) := (aj bH.out 0).trans rfl
                                have agU : wr.cell? ⟨dX, 1, none⟩ = some (.int .i64 a_) := (aj bH.out 1).trans rfl
                                have agT : wr.cell? ⟨dX, 2, none⟩ = some (.slice cO aY.length cu) := (aj bH.out 2).trans rfl
                                have agS : wr.cell? ⟨dX, 3, none⟩ = some (.int .i64 dw) := (aj bH.out 3).trans rfl
                                have agR : wr.cell? ⟨dX, 4, none⟩ = some (.int .i64 dB) := (aj bH.out 4).trans rfl
                                have agQ : wr.cell? ⟨dX, 5, none⟩ = some (.slice (some D5) bV.length fZ) := (aj bH.out 5).trans rfl
                                have afD := aA bH.out 0
                                have afC := aA bH.out 1
                                have afB := aA bH.out 2
                                have afA := aA bH.out 3
                                have afz := aA bH.out 4
                                have afy := aA bH.out 5
                                have NF : 0 ≤ ((wJ) : Int) := of_decide_eq_true (by first | (with_reducible assumption) | assumption)
                                have Np : (wJ) < (bV.length : Int) := of_decide_eq_true (by first | (with_reducible assumption) | assumption)
                                obtain ⟨Uy, e210, xu⟩ := Kd.jv nO.out (wJ) NF Np
                                obtain rfl : D5 = Uy := (by injection e210)
                                replace xu := (HB.out.cell (World.block_lt_of_cell? w _ xu)).trans xu
                                replace NF := eq_true NF
                                replace Np := eq_true Np
                                have ND : 0 ≤ ((uG) : Int) := of_decide_eq_true (by first | (with_reducible assumption) | assumption)
                                have Nl : (uG) < (bV.length : Int) := of_decide_eq_true (by first | (with_reducible assumption) | assumption)
                                obtain ⟨Ux, e211, xq⟩ := Kd.jv nO.out (uG) ND Nl
                                obtain rfl : D5 = Ux := (by injection e211)
                                replace xq := (HB.out.cell (World.block_lt_of_cell? w _ xq)).trans xq
                                replace ND := eq_true ND
                                replace Nl := eq_true Nl
                                go_wp2
                                repeat (go_quiet (fail); try go_wp2)
                                go_roundg k3
                                case measure => have := UK.out; have := yN.out; have := HK3.out; omega
                                case rel => exact ⟨(wrap64 (wo + 1)), (by first | rfl | (simp; done) | (simp [*]; done)), H', ⟨by have := UK.out; have := yN.out; have := HK3.out; omega⟩, ⟨by (with_reducible repeat (first | refine ay ?_ _ | refine aC ?_ | refine az ?_ _)); exact bH.out⟩, ⟨by repeat (first | (with_reducible first | exact HB.out | apply au | apply af | apply ak | refine aG ?_ pJ.out) | exact HB.out)⟩⟩
                              · rw [if_neg SB] at H
                                have abI : ((rd bV (wJ)) == (rd bV (uG))) = false := beq_eq_false_iff_ne.mpr SB
                                have abH : ((rd bV (wJ)) != (rd bV (uG))) = true := bne_iff_ne.mpr SB
                                obtain rfl := Option.some.inj H
                                have WQ : wr.cell? ⟨dX, 0, none⟩ = some (.int .i64 aQ) := (aj bH.out 0).trans rfl
                                have WO : wr.cell? ⟨dX, 1, none⟩ = some (.int .i64 a_) := (aj bH.out 1).trans rfl
                                have WN : wr.cell? ⟨dX, 2, none⟩ = some (.slice cO aY.length cu) := (aj bH.out 2).trans rfl
                                have agP : wr.cell? ⟨dX, 3, none⟩ = some (.int .i64 dw) := (aj bH.out 3).trans rfl
                                have agO : wr.cell? ⟨dX, 4, none⟩ = some (.int .i64 dB) := (aj bH.out 4).trans rfl
                                have agN : wr.cell? ⟨dX, 5, none⟩ = some (.slice (some D5) bV.length fZ) := (aj bH.out 5).trans rfl
                                have VR := aA bH.out 0
                                have VQ := aA bH.out 1
                                have VP := aA bH.out 2
                                have afx := aA bH.out 3
                                have afw := aA bH.out 4
                                have afv := aA bH.out 5
                                have NF : 0 ≤ ((wJ) : Int) := of_decide_eq_true (by first | (with_reducible assumption) | assumption)
                                have Np : (wJ) < (bV.length : Int) := of_decide_eq_true (by first | (with_reducible assumption) | assumption)
                                obtain ⟨Uy, e210, xu⟩ := Kd.jv nO.out (wJ) NF Np
                                obtain rfl : D5 = Uy := (by injection e210)
                                replace xu := (HB.out.cell (World.block_lt_of_cell? w _ xu)).trans xu
                                replace NF := eq_true NF
                                replace Np := eq_true Np
                                have ND : 0 ≤ ((uG) : Int) := of_decide_eq_true (by first | (with_reducible assumption) | assumption)
                                have Nl : (uG) < (bV.length : Int) := of_decide_eq_true (by first | (with_reducible assumption) | assumption)
                                obtain ⟨Ux, e211, xq⟩ := Kd.jv nO.out (uG) ND Nl
                                obtain rfl : D5 = Ux := (by injection e211)
                                replace xq := (HB.out.cell (World.block_lt_of_cell? w _ xq)).trans xq
                                replace ND := eq_true ND
                                replace Nl := eq_true Nl
                                go_wp2
                                repeat (go_quiet (fail); try go_wp2)
                                go_ret
                                exact ⟨by first | rfl | (simp [aU, aT] <;> rfl) | (simp only [← Lj, ← Pn, ← zT]; first | rfl | (simp [aU, aT] <;> rfl)) | (simp [*, aU, aT] <;> rfl), by repeat (first | (with_reducible first | exact HB.out | apply au | apply af | apply ak | refine aG ?_ pJ.out) | exact HB.out)⟩
                            · rw [if_neg c32] at H
                              exact absurd H (by simp)
                          · rw [if_neg c31] at H
                            exact absurd H (by simp)
                        · rw [if_neg c29] at H
                          exact absurd H (by simp)
                      · rw [if_neg c28] at H
                        exact absurd H (by simp)
                    · rw [if_neg JP] at H
                      have BH : decide (wo < iL) = false := decide_eq_false JP
                      clear JP
                      have H' := ah.mk H
                      clear H
                      go_wp2
                      repeat (go_quiet (fail); try go_wp2)
                      go_roundg k3
                      case measure => have := UK.out; have := yN.out; have := HK3.out; omega
                      case rel => exact ⟨(wrap64 (iL + 1)), (by first | rfl | (simp; done) | (simp [*]; done)), H', ⟨by have := UK.out; have := yN.out; have := HK3.out; omega⟩, ⟨by (with_reducible repeat (first | refine ay ?_ _ | refine aC ?_ | refine az ?_ _)); exact bH.out⟩, ⟨by repeat (first | (with_reducible first | exact HB.out | apply au | apply af | apply ak | refine aG ?_ pJ.out) | exact HB.out)⟩⟩
             · rw [if_neg RU] at H
               exact absurd H (by simp)
           · rw [if_neg c21] at H
             exact absurd H (by simp)
         · rw [if_neg c19] at H
           have LV : decide (iL < aQ) = false := decide_eq_false c19
           clear c19
           obtain rfl := Option.some.inj H
           go_wp2
           repeat (go_quiet (fail); try go_wp2)
           go_ret
           exact ⟨by first | rfl | (simp [aU, aT] <;> rfl) | (simp [*, aU, aT] <;> rfl), by repeat (first | (with_reducible first | exact HB.out | apply au | apply af | apply ak | refine aG ?_ pJ.out) | exact HB.out)⟩
end Go.Proofs.Ytninmcmajbfccaa.PQ

namespace Go.Proofs.Ytninmcmajbfccaa.PQ
open Go.RowKit Go.Proofs.aH.bK Go.Proofs.aH.dG Go.Proofs.aH.dJ
attribute [local go_sem] jS jQ kT kS ji jh jR jP
set_option linter.unusedVariables false
set_option linter.unusedSimpArgs false
theorem TZ (d : Nat) (w : World) (x0 y0 : Int) (x1 y1 : Int) :
 (Op.equalIn (d + 2) 99 (.agg #[.int .i64 x0, .int .i64 x1]) (.agg #[.int .i64 y0, .int .i64 y1])).run Try.prog w = .ok (x0 == y0 && (x1 == y1)) w := by
 refine Zo Try.underlying99 (by kernel_rfl) ?_
 refine TY (by rfl) (by go_simp; rfl) (by go_simp; rfl) (by go_simp) ?_
 exact TW (by rfl) (by go_simp; rfl) (by go_simp; rfl) (by go_simp)
end Go.Proofs.Ytninmcmajbfccaa.PQ

