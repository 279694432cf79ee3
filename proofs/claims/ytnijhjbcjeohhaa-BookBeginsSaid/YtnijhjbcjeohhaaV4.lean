import Derived.Test.YtnijhjbcjeohhaaV2
import Derived.Test.YtnijhjbcjeohhaaV3
import Derived.Test.YtnijhjbcjeohhaaV1
import Derived.Below
import Derived.Deep.Draws
import Derived.Deep.AppendLies
import Derived.Maps.AppendAt
import Derived.OwnWalk
import Derived.ArgAppend
import Derived.Laws.OwnMore
import Derived.Deep.OwnRows
import Derived.Tactics
import Derived.Laws.Slices
import Derived.WalkKit
import Derived.KernelRfl
import Derived.RowKit3
import Derived.Deep.LoopGhost
import Derived.Deep.QuietTactic
import Derived.WideLaws
import Derived.Deep.RegionHeld3
import Derived.Deep.RegionLaw
import Derived.Laws.Rows
import Derived.RowKit
import Derived.LoopTactic
import Derived.Lib.Hide
import Derived.Laws.AppendOwn
import Derived.IntWalk
/- Joined and thinned by a program of this session's own (wip/pack2.py) out of its texts (wip/ of its repo); parts were laid by its own program (wip/print-patch.py over the kit's print) out of the translation; Lean checks all. -/
set_option maxRecDepth 100000
set_option maxHeartbeats 8000000
namespace Go.Proofs.Ytnijhjbcjeohhaa.PQ
open Go.RowKit Go.Proofs.af.aA Go.Proofs.af.aN Go.Proofs.af.aP
attribute [local go_sem] gz gu jc iZ fD fC gy gq
set_option linter.unusedVariables false
set_option linter.unusedSimpArgs false
attribute [local go_sem high] Ox
def fQ.f (k : Nat) (bI : Int) (bQ : Int) (bP : List Int) (bU : Int) (bW : Int) (bK : List Int) : Option (Bool) := (mY.f bI bQ bP).bind fun F8 => ((mY.f bU bW bK).bind fun xC => (if (F8.1 == xC.1 && (F8.2 == xC.2)) = true then ((dK.f k bP bK).bind fun t164 => (some t164)) else (some false)))
def fQ.T1 : Bool × List (List Nat × List Nat) := (true, [([], []), ([0], [0]), ([], []), ([2, 1], [2]), ([1, 3], [1, 3]), ([4, 3], [4]), ([5], [5]), ([6, 5], [5, 6]), ([5], [5]), ([8, 5], [5, 8]), ([7, 9, 5, 5], [5, 7, 9]), ([5, 10], [5, 10]), ([11, 10, 0, 1, 2, 3, 4, 5, 6, 7, 8, 9, 10, 11], [11])])
def fQ.B1 : List Nat := [0, 1, 0, 7, 15, 31, 63, 127, 63, 319, 1023, 2047, 4095]
theorem fQ.Qa : nU .any (opsOf Try.f76 1) = fQ.T1 := by kernel_rfl
theorem fQ.Jy : qA fQ.T1.2 fQ.B1 = true := by kernel_rfl
theorem fQ.calls (k : Nat) (bI : Int) (bQ : Int) (dV : Option Addr) (dU : Nat) (bP : List Int) (bU : Int) (bW : Int) (fK : Option Addr) (fM : Nat) (bK : List Int) (r : Bool) (w : World) (mG : Kd.C (Kd.int .i64) w dV bP.length bP) (oq : bP.length ≤ dU) (qi : Kd.C (Kd.int .i64) w fK bK.length bK) (qO : bK.length ≤ fM) (h : fQ.f k bI bQ bP bU bW bK = some r) :
 Calls Try.prog 76 #[.agg #[.int .i64 bI, .int .i64 bQ, .slice dV bP.length dU], .agg #[.int .i64 bU, .int .i64 bW, .slice fK bK.length fM]] w fun e w' => e = .returned (.bool r) ∧ Below w.heap.size w w' := by
 have NF := Try.underlying31
 have zQ := aj.mk mG
 have zT := aj.mk oq
 clear mG oq
 have zO := aj.mk qi
 have zS := aj.mk qO
 clear qi qO
 have HB := aj.mk (Below.refl w.heap.size w)
 have H : ((mY.f bI bQ bP).bind fun F8 => ((mY.f bU bW bK).bind fun xC => (if (F8.1 == xC.1 && (F8.2 == xC.2)) = true then ((dK.f k bP bK).bind fun t164 => (some t164)) else (some false)))) = some r := h
 clear h
 replace H := Option.bind_eq_some_iff.mp H
 obtain ⟨⟨t160, t161⟩, CJ, H⟩ := H
 replace H : ((mY.f bU bW bK).bind fun xC => (if (t160 == xC.1 && (t161 == xC.2)) = true then ((dK.f k bP bK).bind fun t164 => (some t164)) else (some false))) = some r := H
 have A3 := aj.mk CJ
 clear CJ
 replace H := Option.bind_eq_some_iff.mp H
 obtain ⟨⟨t162, t163⟩, Gt, H⟩ := H
 replace H : (if (t160 == t162 && (t161 == t163)) = true then ((dK.f k bP bK).bind fun t164 => (some t164)) else (some false)) = some r := H
 have A4 := aj.mk Gt
 clear Gt
 by_cases c5 : (t160 == t162 && (t161 == t163)) = true
 · rw [if_pos c5] at H
   have yc : (t160 == t162 && (t161 == t163)) = true := c5
   (try (have acZ : decide (t160 = t162 && (t161 == t163)) = true := by simpa using c5))
   (try (have acY : (t160 == t162 && (t161 == t163)) = true := by simpa using c5))
   clear c5
   replace H := Option.bind_eq_some_iff.mp H
   obtain ⟨t164, Um, H⟩ := H
   replace H : (some t164) = some r := H
   have A6 := aj.mk Um
   clear Um
   obtain rfl := Option.some.inj H
   go_enter Try.func76, Try.ntmps76
   try go_wp2_with (first | ((with_reducible refine dW (N := 2) rfl ?_); refine dO ?hg (N := 2) ?hd (cs := #[.int .i64 bI, .int .i64 bQ, .slice dV bP.length dU]) (t := 31) ?hr ?_; (case hd => rfl); (case hg => rfl); (case hr => first | (go_simp; done) | (go_simp; rfl)); intro iM hg w7 hbox hb; have bu := aj.mk (aQ (by repeat (first | (with_reducible first | exact HB.out | apply ak | apply ah | apply au) | exact HB.out)) hb); have fH := aj.mk (hbox); have fG := aj.mk ((by rw [hg]; exact (bD (by repeat (first | (with_reducible first | exact HB.out | apply ak | apply ah | apply au) | exact HB.out))) : w.heap.size ≤ iM)); have iG := aj.mk ((by rw [hg]; exact (bD (by repeat (first | (with_reducible first | exact HB.out | apply ak | apply ah | apply au) | exact HB.out))) : w.heap.size ≤ iM)); clear HB; have HB := bu; have dI := fH; have ZX := fG; have qy := iG; clear bu fH fG iG; clear hb hbox hg) | ((with_reducible refine dW (N := 3) rfl ?_); refine dO ?hg (N := 3) ?hd (cs := #[.int .i64 bU, .int .i64 bW, .slice fK bK.length fM]) (t := 31) ?hr ?_; (case hd => rfl); (case hg => rfl); (case hr => first | (go_simp; done) | (go_simp; rfl)); intro kT hg w8 hbox hb; have bu := aj.mk (bM (g := iM) (o := .cells #[.int .i64 bI, .int .i64 bQ, .slice dV bP.length dU] 31 (0, 0)) (by (with_reducible repeat (first | refine aF ?_ _ | refine aK ?_ | refine aG ?_ _)); exact dI.out) hb); have fH := aj.mk (aQ (by repeat (first | (with_reducible first | exact HB.out | apply ak | apply ah | apply au | refine aB ?_ qy.out) | exact HB.out)) hb); have fG := aj.mk (hbox); have iG := aj.mk ((by rw [hg]; exact (bD (by repeat (first | (with_reducible first | exact HB.out | apply ak | apply ah | apply au | refine aB ?_ qy.out) | exact HB.out))) : w.heap.size ≤ kT)); have kQ := aj.mk ((by rw [hg]; exact (bD (by repeat (first | (with_reducible first | exact HB.out | apply ak | apply ah | apply au | refine aB ?_ qy.out) | exact HB.out))) : w.heap.size ≤ kT)); have kZ := aj.mk ((by rw [hg]; exact Nat.ne_of_lt (d_ (g := iM) (o := .cells #[.int .i64 bI, .int .i64 bQ, .slice dV bP.length dU] 31 (0, 0)) (by (with_reducible repeat (first | refine aF ?_ _ | refine aK ?_ | refine aG ?_ _)); exact dI.out)) : iM ≠ kT)); have mF := aj.mk ((by rw [hg]; exact Nat.ne_of_gt (d_ (g := iM) (o := .cells #[.int .i64 bI, .int .i64 bQ, .slice dV bP.length dU] 31 (0, 0)) (by (with_reducible repeat (first | refine aF ?_ _ | refine aK ?_ | refine aG ?_ _)); exact dI.out)) : kT ≠ iM)); clear dI; clear HB; have dI := bu; have HB := fH; have dS := fG; have ZW := iG; have zW := kQ; have Md := kZ; have Mc := mF; clear bu fH fG iG kQ kZ mF; clear hb hbox hg))
   have bu := aj.mk (aK dI.out)
   have fH := aj.mk (aK dS.out)
   have fG := aj.mk (au HB.out)
   clear dI
   clear dS
   clear HB
   have dI := bu
   have dS := fH
   have HB := fG
   clear bu fH fG
   refine C_ (n := 13) (S := fun w' => w'.cell? ⟨iM, 0, none⟩ = some (.int .i64 bI) ∧ w'.cell? ⟨iM, 1, none⟩ = some (.int .i64 bQ) ∧ w'.cell? ⟨iM, 2, none⟩ = some (.slice dV bP.length dU) ∧ w'.cell? ⟨kT, 0, none⟩ = some (.int .i64 bU) ∧ w'.cell? ⟨kT, 1, none⟩ = some (.int .i64 bW) ∧ w'.cell? ⟨kT, 2, none⟩ = some (.slice fK bK.length fM)) (ds := []) #[false, false, false, false, false, false, false, false, false, false, false, false, false] (by kernel_rfl) rfl rfl ⟨(aC dI.out 0).trans rfl, (aC dI.out 1).trans rfl, (aC dI.out 2).trans rfl, (aC dS.out 0).trans rfl, (aC dS.out 1).trans rfl, (aC dS.out 2).trans rfl⟩ (fun hHeld => ?_); refine sQ fQ.Qa fQ.Jy (fun jD Gm => ?_)
   generalize w8.drew = w9 at dI dS HB hHeld ⊢
   refine oO (i := 0) (N := some 5) (v := ?_) (a' := ?_) #[true, false, false, false, false, false, false, false, false, false, false, false, false] rfl rfl (f_ jD.out Gm.out (by kernel_rfl)) (fun _ _ _ h => h) (Or.inl ⟨by rfl, ?_⟩) hHeld ?_ ?_
   rotate_left
   · rintro w' ⟨s0, s1, s2, s3, s4, s5⟩
     go_simp
     with_reducible rfl
   rotate_left
   · simp only [Act.put, List.setIfInBounds_toArray, List.set_cons_zero, List.set_cons_succ, bV, bZ]
     rfl
   refine oO (i := 2) (N := some 7) (v := ?_) (a' := ?_) #[true, false, true, false, false, false, false, false, false, false, false, false, false] rfl rfl (f_ jD.out Gm.out (by kernel_rfl)) (fun _ _ _ h => h) (Or.inl ⟨by rfl, ?_⟩) hHeld ?_ ?_
   rotate_left
   · rintro w' ⟨s0, s1, s2, s3, s4, s5⟩
     go_simp
     with_reducible rfl
   rotate_left
   · simp only [Act.put, List.setIfInBounds_toArray, List.set_cons_zero, List.set_cons_succ, bV, bZ]
     rfl
   refine yU (i := 1) (N := some 6) #[true, true, true, false, false, false, false, false, false, false, false, false, false] rfl rfl (mX jD.out (by kernel_rfl)) (by decide) (fun K hK => ?_)
   refine uq Try.func107 (by kernel_rfl) rfl #[.agg #[.int .i64 bI, .int .i64 bQ, .slice dV bP.length dU]] (by rfl) rfl rfl (by (try simp only [List.map_toArray, List.map_cons, List.map_nil]); first | done | rfl | (simp only [List.length_drop, List.length_take]; rfl)) ?_
   with_reducible refine (mY.calls bI bQ _ _ bP t160 t161 _ ?jT ?jS A3.out).mono ?_
   (case jT => repeat (first | exact (Kd.jZ zQ.out HB.out) | (with_reducible refine Kd.nN ?_ _) | (with_reducible refine Kd.nM ?_ _) | (with_reducible refine Kd.qL ?_)))
   (case jS => exact zT.out)
   rintro e w10 ⟨rfl, hb⟩
   refine ⟨_, rfl, ?_⟩
   have bu := aj.mk (bM (g := iM) (o := .cells #[.int .i64 bI, .int .i64 bQ, .slice dV bP.length dU] 31 (0, 0)) (by (with_reducible repeat (first | refine aF ?_ _ | refine aK ?_ | refine aG ?_ _)); exact dI.out) hb)
   have fH := aj.mk (bM (g := kT) (o := .cells #[.int .i64 bU, .int .i64 bW, .slice fK bK.length fM] 31 (0, 0)) (by (with_reducible repeat (first | refine aF ?_ _ | refine aK ?_ | refine aG ?_ _)); exact dS.out) hb)
   have fG := aj.mk (aQ (by repeat (first | (with_reducible first | exact HB.out | apply ak | apply ah | apply au | refine aB ?_ qy.out | refine aB ?_ zW.out) | exact HB.out)) hb)
   clear dI
   clear dS
   clear HB
   have dI := bu
   have dS := fH
   have HB := fG
   clear bu fH fG
   (try clear hb)
   (try clear hb2)
   (try clear hk)
   (try clear hi)
   refine hK.out _ _ ⟨(aC dI.out 0).trans rfl, (aC dI.out 1).trans rfl, (aC dI.out 2).trans rfl, (aC dS.out 0).trans rfl, (aC dS.out 1).trans rfl, (aC dS.out 2).trans rfl⟩ (fun hHeld => ?_)
   clear hK K
   refine uh (a' := ?_) ?_ ?_
   rotate_left
   · show Act.put _ (some 6) _ = _
     simp only [Act.put, List.setIfInBounds_toArray, List.set_cons_zero, List.set_cons_succ, bV, bZ]
     rfl
   refine yU (i := 3) (N := some 8) #[true, true, true, true, false, false, false, false, false, false, false, false, false] rfl rfl (mX jD.out (by kernel_rfl)) (by decide) (fun K hK => ?_)
   refine uq Try.func107 (by kernel_rfl) rfl #[.agg #[.int .i64 bU, .int .i64 bW, .slice fK bK.length fM]] (by rfl) rfl rfl (by (try simp only [List.map_toArray, List.map_cons, List.map_nil]); first | done | rfl | (simp only [List.length_drop, List.length_take]; rfl)) ?_
   with_reducible refine (mY.calls bU bW _ _ bK t162 t163 _ ?jT ?jS A4.out).mono ?_
   (case jT => repeat (first | exact (Kd.jZ zO.out HB.out) | (with_reducible refine Kd.nN ?_ _) | (with_reducible refine Kd.nM ?_ _) | (with_reducible refine Kd.qL ?_)))
   (case jS => exact zS.out)
   rintro e MJ ⟨rfl, hb⟩
   refine ⟨_, rfl, ?_⟩
   have bu := aj.mk (bM (g := iM) (o := .cells #[.int .i64 bI, .int .i64 bQ, .slice dV bP.length dU] 31 (0, 0)) (by (with_reducible repeat (first | refine aF ?_ _ | refine aK ?_ | refine aG ?_ _)); exact dI.out) hb)
   have fH := aj.mk (bM (g := kT) (o := .cells #[.int .i64 bU, .int .i64 bW, .slice fK bK.length fM] 31 (0, 0)) (by (with_reducible repeat (first | refine aF ?_ _ | refine aK ?_ | refine aG ?_ _)); exact dS.out) hb)
   have fG := aj.mk (aQ (by repeat (first | (with_reducible first | exact HB.out | apply ak | apply ah | apply au | refine aB ?_ qy.out | refine aB ?_ zW.out) | exact HB.out)) hb)
   clear dI
   clear dS
   clear HB
   have dI := bu
   have dS := fH
   have HB := fG
   clear bu fH fG
   (try clear hb)
   (try clear hb2)
   (try clear hk)
   (try clear hi)
   refine hK.out _ _ ⟨(aC dI.out 0).trans rfl, (aC dI.out 1).trans rfl, (aC dI.out 2).trans rfl, (aC dS.out 0).trans rfl, (aC dS.out 1).trans rfl, (aC dS.out 2).trans rfl⟩ (fun hHeld => ?_)
   clear hK K
   refine uh (a' := ?_) ?_ ?_
   rotate_left
   · show Act.put _ (some 8) _ = _
     simp only [Act.put, List.setIfInBounds_toArray, List.set_cons_zero, List.set_cons_succ, bV, bZ]
     rfl
   refine eu (i := 4) (N := some 9) (v := ?_) (a' := ?_) #[true, true, true, true, true, false, false, false, false, false, false, false, false] rfl rfl (dG jD.out (by kernel_rfl)) (fun _ _ _ h => h) (Or.inl ⟨by rfl, ?_⟩) ?_ ?_
   rotate_left
   · intro w'
     go_simp
     with_reducible rfl
   rotate_left
   · simp only [Act.put, List.setIfInBounds_toArray, List.set_cons_zero, List.set_cons_succ, bV, bZ]
     rfl
   refine eu (i := 5) (N := some 10) (v := ?_) (a' := ?_) #[true, true, true, true, true, true, false, false, false, false, false, false, false] rfl rfl (dG jD.out (by kernel_rfl)) (fun _ _ _ h => h) (Or.inl ⟨by rfl, ?_⟩) ?_ ?_
   rotate_left
   · intro w'
     go_simp
     with_reducible rfl
   rotate_left
   · simp only [Act.put, List.setIfInBounds_toArray, List.set_cons_zero, List.set_cons_succ, bV, bZ]
     rfl
   refine eu (i := 6) (N := some 11) (v := ?_) (a' := ?_) #[true, true, true, true, true, true, true, false, false, false, false, false, false] rfl rfl (dG jD.out (by kernel_rfl)) (fun _ _ _ h => h) (Or.inl ⟨by rfl, ?_⟩) ?_ ?_
   rotate_left
   · intro w'
     go_simp
     with_reducible rfl
   rotate_left
   · simp only [Act.put, List.setIfInBounds_toArray, List.set_cons_zero, List.set_cons_succ, bV, bZ]
     rfl
   refine eu (i := 8) (N := some 13) (v := ?_) (a' := ?_) #[true, true, true, true, true, true, true, false, true, false, false, false, false] rfl rfl (dG jD.out (by kernel_rfl)) (fun _ _ _ h => h) (Or.inl ⟨by rfl, ?_⟩) ?_ ?_
   rotate_left
   · intro w'
     go_simp
     with_reducible rfl
   rotate_left
   · simp only [Act.put, List.setIfInBounds_toArray, List.set_cons_zero, List.set_cons_succ, bV, bZ]
     rfl
   refine oO (i := 7) (N := some 12) (v := ?_) (a' := ?_) #[true, true, true, true, true, true, true, true, true, false, false, false, false] rfl rfl (f_ jD.out Gm.out (by kernel_rfl)) (fun _ _ _ h => h) (Or.inl ⟨by rfl, ?_⟩) hHeld ?_ ?_
   rotate_left
   · rintro w' ⟨s0, s1, s2, s3, s4, s5⟩
     go_simp
     with_reducible rfl
   rotate_left
   · simp only [Act.put, List.setIfInBounds_toArray, List.set_cons_zero, List.set_cons_succ, bV, bZ]
     rfl
   refine oO (i := 9) (N := some 14) (v := ?_) (a' := ?_) #[true, true, true, true, true, true, true, true, true, true, false, false, false] rfl rfl (f_ jD.out Gm.out (by kernel_rfl)) (fun _ _ _ h => h) (Or.inl ⟨by rfl, ?_⟩) hHeld ?_ ?_
   rotate_left
   · rintro w' ⟨s0, s1, s2, s3, s4, s5⟩
     go_simp
     with_reducible rfl
   rotate_left
   · simp only [Act.put, List.setIfInBounds_toArray, List.set_cons_zero, List.set_cons_succ, bV, bZ]
     rfl
   refine yU (i := 10) (N := some 15) #[true, true, true, true, true, true, true, true, true, true, true, false, false] rfl rfl (mX jD.out (by kernel_rfl)) (by decide) (fun K hK => ?_)
   refine uq Try.func108 (by kernel_rfl) rfl #[.slice dV bP.length dU, .slice fK bK.length fM] (by rfl) rfl rfl (by (try simp only [List.map_toArray, List.map_cons, List.map_nil]); first | done | rfl | (simp only [List.length_drop, List.length_take]; rfl)) ?_
   with_reducible refine (dK.calls k _ _ bP _ _ bK t164 _ ?jT ?jS ?uQ ?Ej A6.out).mono ?_
   (case jT => repeat (first | exact (Kd.jZ zQ.out HB.out) | (with_reducible refine Kd.nN ?_ _) | (with_reducible refine Kd.nM ?_ _) | (with_reducible refine Kd.qL ?_)))
   (case jS => exact zT.out)
   (case uQ => repeat (first | exact (Kd.jZ zO.out HB.out) | (with_reducible refine Kd.nN ?_ _) | (with_reducible refine Kd.nM ?_ _) | (with_reducible refine Kd.qL ?_)))
   (case Ej => exact zS.out)
   rintro e w' ⟨rfl, ⟨nd, rfl⟩⟩
   refine ⟨_, rfl, ?_⟩
   refine hK.out _ _ ⟨(aC dI.out 0).trans rfl, (aC dI.out 1).trans rfl, (aC dI.out 2).trans rfl, (aC dS.out 0).trans rfl, (aC dS.out 1).trans rfl, (aC dS.out 2).trans rfl⟩ (fun hHeld => ?_)
   clear hK K
   refine uh (a' := ?_) ?_ ?_
   rotate_left
   · show Act.put _ (some 15) _ = _
     simp only [Act.put, List.setIfInBounds_toArray, List.set_cons_zero, List.set_cons_succ, bV, bZ]
     rfl
   refine eu (i := 11) (N := some 16) (v := ?_) (a' := ?_) #[true, true, true, true, true, true, true, true, true, true, true, true, false] rfl rfl (dG jD.out (by kernel_rfl)) (fun _ _ _ h => h) (Or.inl ⟨by rfl, ?_⟩) ?_ ?_
   rotate_left
   · intro w'
     go_simp
     with_reducible rfl
   rotate_left
   · simp only [Act.put, List.setIfInBounds_toArray, List.set_cons_zero, List.set_cons_succ, bV, bZ]
     rfl
   refine eu (i := 12) (N := some 4) (v := ?_) (a' := ?_) #[true, true, true, true, true, true, true, true, true, true, true, true, true] rfl rfl (dG jD.out (by kernel_rfl)) (fun _ _ _ h => h) (Or.inl ⟨by rfl, ?_⟩) ?_ ?_
   rotate_left
   · intro w'
     go_simp
     with_reducible rfl
   rotate_left
   · simp only [Act.put, List.setIfInBounds_toArray, List.set_cons_zero, List.set_cons_succ, bV, bZ]
     rfl
   refine Js (yx jD.out (by kernel_rfl)) ?_
   try go_wp2
   go_ret
   exact ⟨by first | rfl | (simp [aI, aH] <;> rfl) | (simp [*, aI, aH] <;> rfl), by repeat (first | (with_reducible first | exact HB.out | apply ak | apply ah | apply au | refine aB ?_ qy.out | refine aB ?_ zW.out) | exact HB.out)⟩
 · rw [if_neg c5] at H
   have yc : (t160 == t162 && (t161 == t163)) = false := by simpa using c5
   (try (have acZ : decide (t160 = t162 && (t161 == t163)) = false := by simpa using c5))
   (try (have acY : (t160 == t162 && (t161 == t163)) = false := by simpa using c5))
   (try (have aib : ¬ (t160 = t162 && (t161 == t163)) := by simpa using c5))
   clear c5
   obtain rfl := Option.some.inj H
   go_enter Try.func76, Try.ntmps76
   try go_wp2_with (first | ((with_reducible refine dW (N := 2) rfl ?_); refine dO ?hg (N := 2) ?hd (cs := #[.int .i64 bI, .int .i64 bQ, .slice dV bP.length dU]) (t := 31) ?hr ?_; (case hd => rfl); (case hg => rfl); (case hr => first | (go_simp; done) | (go_simp; rfl)); intro iM hg w12 hbox hb; have bu := aj.mk (aQ (by repeat (first | (with_reducible first | exact HB.out | apply ak | apply ah | apply au) | exact HB.out)) hb); have fH := aj.mk (hbox); have fG := aj.mk ((by rw [hg]; exact (bD (by repeat (first | (with_reducible first | exact HB.out | apply ak | apply ah | apply au) | exact HB.out))) : w.heap.size ≤ iM)); have iG := aj.mk ((by rw [hg]; exact (bD (by repeat (first | (with_reducible first | exact HB.out | apply ak | apply ah | apply au) | exact HB.out))) : w.heap.size ≤ iM)); clear HB; have HB := bu; have dI := fH; have ZX := fG; have qy := iG; clear bu fH fG iG; clear hb hbox hg) | ((with_reducible refine dW (N := 3) rfl ?_); refine dO ?hg (N := 3) ?hd (cs := #[.int .i64 bU, .int .i64 bW, .slice fK bK.length fM]) (t := 31) ?hr ?_; (case hd => rfl); (case hg => rfl); (case hr => first | (go_simp; done) | (go_simp; rfl)); intro kT hg ML hbox hb; have bu := aj.mk (bM (g := iM) (o := .cells #[.int .i64 bI, .int .i64 bQ, .slice dV bP.length dU] 31 (0, 0)) (by (with_reducible repeat (first | refine aF ?_ _ | refine aK ?_ | refine aG ?_ _)); exact dI.out) hb); have fH := aj.mk (aQ (by repeat (first | (with_reducible first | exact HB.out | apply ak | apply ah | apply au | refine aB ?_ qy.out) | exact HB.out)) hb); have fG := aj.mk (hbox); have iG := aj.mk ((by rw [hg]; exact (bD (by repeat (first | (with_reducible first | exact HB.out | apply ak | apply ah | apply au | refine aB ?_ qy.out) | exact HB.out))) : w.heap.size ≤ kT)); have kQ := aj.mk ((by rw [hg]; exact (bD (by repeat (first | (with_reducible first | exact HB.out | apply ak | apply ah | apply au | refine aB ?_ qy.out) | exact HB.out))) : w.heap.size ≤ kT)); have kZ := aj.mk ((by rw [hg]; exact Nat.ne_of_lt (d_ (g := iM) (o := .cells #[.int .i64 bI, .int .i64 bQ, .slice dV bP.length dU] 31 (0, 0)) (by (with_reducible repeat (first | refine aF ?_ _ | refine aK ?_ | refine aG ?_ _)); exact dI.out)) : iM ≠ kT)); have mF := aj.mk ((by rw [hg]; exact Nat.ne_of_gt (d_ (g := iM) (o := .cells #[.int .i64 bI, .int .i64 bQ, .slice dV bP.length dU] 31 (0, 0)) (by (with_reducible repeat (first | refine aF ?_ _ | refine aK ?_ | refine aG ?_ _)); exact dI.out)) : kT ≠ iM)); clear dI; clear HB; have dI := bu; have HB := fH; have dS := fG; have ZW := iG; have zW := kQ; have Md := kZ; have Mc := mF; clear bu fH fG iG kQ kZ mF; clear hb hbox hg))
   have bu := aj.mk (aK dI.out)
   have fH := aj.mk (aK dS.out)
   have fG := aj.mk (au HB.out)
   clear dI
   clear dS
   clear HB
   have dI := bu
   have dS := fH
   have HB := fG
   clear bu fH fG
   refine C_ (n := 13) (S := fun w' => w'.cell? ⟨iM, 0, none⟩ = some (.int .i64 bI) ∧ w'.cell? ⟨iM, 1, none⟩ = some (.int .i64 bQ) ∧ w'.cell? ⟨iM, 2, none⟩ = some (.slice dV bP.length dU) ∧ w'.cell? ⟨kT, 0, none⟩ = some (.int .i64 bU) ∧ w'.cell? ⟨kT, 1, none⟩ = some (.int .i64 bW) ∧ w'.cell? ⟨kT, 2, none⟩ = some (.slice fK bK.length fM)) (ds := []) #[false, false, false, false, false, false, false, false, false, false, false, false, false] (by kernel_rfl) rfl rfl ⟨(aC dI.out 0).trans rfl, (aC dI.out 1).trans rfl, (aC dI.out 2).trans rfl, (aC dS.out 0).trans rfl, (aC dS.out 1).trans rfl, (aC dS.out 2).trans rfl⟩ (fun hHeld => ?_); refine sQ fQ.Qa fQ.Jy (fun jD Gm => ?_)
   generalize ML.drew = Xr at dI dS HB hHeld ⊢
   refine oO (i := 0) (N := some 5) (v := ?_) (a' := ?_) #[true, false, false, false, false, false, false, false, false, false, false, false, false] rfl rfl (f_ jD.out Gm.out (by kernel_rfl)) (fun _ _ _ h => h) (Or.inl ⟨by rfl, ?_⟩) hHeld ?_ ?_
   rotate_left
   · rintro w' ⟨s0, s1, s2, s3, s4, s5⟩
     go_simp
     with_reducible rfl
   rotate_left
   · simp only [Act.put, List.setIfInBounds_toArray, List.set_cons_zero, List.set_cons_succ, bV, bZ]
     rfl
   refine oO (i := 2) (N := some 7) (v := ?_) (a' := ?_) #[true, false, true, false, false, false, false, false, false, false, false, false, false] rfl rfl (f_ jD.out Gm.out (by kernel_rfl)) (fun _ _ _ h => h) (Or.inl ⟨by rfl, ?_⟩) hHeld ?_ ?_
   rotate_left
   · rintro w' ⟨s0, s1, s2, s3, s4, s5⟩
     go_simp
     with_reducible rfl
   rotate_left
   · simp only [Act.put, List.setIfInBounds_toArray, List.set_cons_zero, List.set_cons_succ, bV, bZ]
     rfl
   refine yU (i := 1) (N := some 6) #[true, true, true, false, false, false, false, false, false, false, false, false, false] rfl rfl (mX jD.out (by kernel_rfl)) (by decide) (fun K hK => ?_)
   refine uq Try.func107 (by kernel_rfl) rfl #[.agg #[.int .i64 bI, .int .i64 bQ, .slice dV bP.length dU]] (by rfl) rfl rfl (by (try simp only [List.map_toArray, List.map_cons, List.map_nil]); first | done | rfl | (simp only [List.length_drop, List.length_take]; rfl)) ?_
   with_reducible refine (mY.calls bI bQ _ _ bP t160 t161 _ ?jT ?jS A3.out).mono ?_
   (case jT => repeat (first | exact (Kd.jZ zQ.out HB.out) | (with_reducible refine Kd.nN ?_ _) | (with_reducible refine Kd.nM ?_ _) | (with_reducible refine Kd.qL ?_)))
   (case jS => exact zT.out)
   rintro e w15 ⟨rfl, hb⟩
   refine ⟨_, rfl, ?_⟩
   have bu := aj.mk (bM (g := iM) (o := .cells #[.int .i64 bI, .int .i64 bQ, .slice dV bP.length dU] 31 (0, 0)) (by (with_reducible repeat (first | refine aF ?_ _ | refine aK ?_ | refine aG ?_ _)); exact dI.out) hb)
   have fH := aj.mk (bM (g := kT) (o := .cells #[.int .i64 bU, .int .i64 bW, .slice fK bK.length fM] 31 (0, 0)) (by (with_reducible repeat (first | refine aF ?_ _ | refine aK ?_ | refine aG ?_ _)); exact dS.out) hb)
   have fG := aj.mk (aQ (by repeat (first | (with_reducible first | exact HB.out | apply ak | apply ah | apply au | refine aB ?_ qy.out | refine aB ?_ zW.out) | exact HB.out)) hb)
   clear dI
   clear dS
   clear HB
   have dI := bu
   have dS := fH
   have HB := fG
   clear bu fH fG
   (try clear hb)
   (try clear hb2)
   (try clear hk)
   (try clear hi)
   refine hK.out _ _ ⟨(aC dI.out 0).trans rfl, (aC dI.out 1).trans rfl, (aC dI.out 2).trans rfl, (aC dS.out 0).trans rfl, (aC dS.out 1).trans rfl, (aC dS.out 2).trans rfl⟩ (fun hHeld => ?_)
   clear hK K
   refine uh (a' := ?_) ?_ ?_
   rotate_left
   · show Act.put _ (some 6) _ = _
     simp only [Act.put, List.setIfInBounds_toArray, List.set_cons_zero, List.set_cons_succ, bV, bZ]
     rfl
   refine yU (i := 3) (N := some 8) #[true, true, true, true, false, false, false, false, false, false, false, false, false] rfl rfl (mX jD.out (by kernel_rfl)) (by decide) (fun K hK => ?_)
   refine uq Try.func107 (by kernel_rfl) rfl #[.agg #[.int .i64 bU, .int .i64 bW, .slice fK bK.length fM]] (by rfl) rfl rfl (by (try simp only [List.map_toArray, List.map_cons, List.map_nil]); first | done | rfl | (simp only [List.length_drop, List.length_take]; rfl)) ?_
   with_reducible refine (mY.calls bU bW _ _ bK t162 t163 _ ?jT ?jS A4.out).mono ?_
   (case jT => repeat (first | exact (Kd.jZ zO.out HB.out) | (with_reducible refine Kd.nN ?_ _) | (with_reducible refine Kd.nM ?_ _) | (with_reducible refine Kd.qL ?_)))
   (case jS => exact zS.out)
   rintro e w16 ⟨rfl, hb⟩
   refine ⟨_, rfl, ?_⟩
   have bu := aj.mk (bM (g := iM) (o := .cells #[.int .i64 bI, .int .i64 bQ, .slice dV bP.length dU] 31 (0, 0)) (by (with_reducible repeat (first | refine aF ?_ _ | refine aK ?_ | refine aG ?_ _)); exact dI.out) hb)
   have fH := aj.mk (bM (g := kT) (o := .cells #[.int .i64 bU, .int .i64 bW, .slice fK bK.length fM] 31 (0, 0)) (by (with_reducible repeat (first | refine aF ?_ _ | refine aK ?_ | refine aG ?_ _)); exact dS.out) hb)
   have fG := aj.mk (aQ (by repeat (first | (with_reducible first | exact HB.out | apply ak | apply ah | apply au | refine aB ?_ qy.out | refine aB ?_ zW.out) | exact HB.out)) hb)
   clear dI
   clear dS
   clear HB
   have dI := bu
   have dS := fH
   have HB := fG
   clear bu fH fG
   (try clear hb)
   (try clear hb2)
   (try clear hk)
   (try clear hi)
   refine hK.out _ _ ⟨(aC dI.out 0).trans rfl, (aC dI.out 1).trans rfl, (aC dI.out 2).trans rfl, (aC dS.out 0).trans rfl, (aC dS.out 1).trans rfl, (aC dS.out 2).trans rfl⟩ (fun hHeld => ?_)
   clear hK K
   refine uh (a' := ?_) ?_ ?_
   rotate_left
   · show Act.put _ (some 8) _ = _
     simp only [Act.put, List.setIfInBounds_toArray, List.set_cons_zero, List.set_cons_succ, bV, bZ]
     rfl
   refine eu (i := 4) (N := some 9) (v := ?_) (a' := ?_) #[true, true, true, true, true, false, false, false, false, false, false, false, false] rfl rfl (dG jD.out (by kernel_rfl)) (fun _ _ _ h => h) (Or.inl ⟨by rfl, ?_⟩) ?_ ?_
   rotate_left
   · intro w'
     go_simp
     with_reducible rfl
   rotate_left
   · simp only [Act.put, List.setIfInBounds_toArray, List.set_cons_zero, List.set_cons_succ, bV, bZ]
     rfl
   refine eu (i := 5) (N := some 10) (v := ?_) (a' := ?_) #[true, true, true, true, true, true, false, false, false, false, false, false, false] rfl rfl (dG jD.out (by kernel_rfl)) (fun _ _ _ h => h) (Or.inl ⟨by rfl, ?_⟩) ?_ ?_
   rotate_left
   · intro w'
     go_simp
     with_reducible rfl
   rotate_left
   · simp only [Act.put, List.setIfInBounds_toArray, List.set_cons_zero, List.set_cons_succ, bV, bZ]
     rfl
   refine eu (i := 6) (N := some 11) (v := undef) (a' := ?_) #[true, true, true, true, true, true, true, false, false, false, false, false, false] rfl rfl (dG jD.out (by kernel_rfl)) (fun _ _ _ h => h) (Or.inr ⟨by rfl, rfl⟩) ?_ ?_
   rotate_left
   · simp only [Act.put, List.setIfInBounds_toArray, List.set_cons_zero, List.set_cons_succ, bV, bZ]
     rfl
   refine eu (i := 7) (N := some 12) (v := undef) (a' := ?_) #[true, true, true, true, true, true, true, true, false, false, false, false, false] rfl rfl (dG jD.out (by kernel_rfl)) (fun _ _ _ h => h) (Or.inr ⟨by rfl, rfl⟩) ?_ ?_
   rotate_left
   · simp only [Act.put, List.setIfInBounds_toArray, List.set_cons_zero, List.set_cons_succ, bV, bZ]
     rfl
   refine eu (i := 8) (N := some 13) (v := undef) (a' := ?_) #[true, true, true, true, true, true, true, true, true, false, false, false, false] rfl rfl (dG jD.out (by kernel_rfl)) (fun _ _ _ h => h) (Or.inr ⟨by rfl, rfl⟩) ?_ ?_
   rotate_left
   · simp only [Act.put, List.setIfInBounds_toArray, List.set_cons_zero, List.set_cons_succ, bV, bZ]
     rfl
   refine eu (i := 9) (N := some 14) (v := undef) (a' := ?_) #[true, true, true, true, true, true, true, true, true, true, false, false, false] rfl rfl (dG jD.out (by kernel_rfl)) (fun _ _ _ h => h) (Or.inr ⟨by rfl, rfl⟩) ?_ ?_
   rotate_left
   · simp only [Act.put, List.setIfInBounds_toArray, List.set_cons_zero, List.set_cons_succ, bV, bZ]
     rfl
   refine eu (i := 10) (N := some 15) (v := undef) (a' := ?_) #[true, true, true, true, true, true, true, true, true, true, true, false, false] rfl rfl (dG jD.out (by kernel_rfl)) (fun _ _ _ h => h) (Or.inr ⟨by rfl, rfl⟩) ?_ ?_
   rotate_left
   · simp only [Act.put, List.setIfInBounds_toArray, List.set_cons_zero, List.set_cons_succ, bV, bZ]
     rfl
   refine eu (i := 11) (N := some 16) (v := ?_) (a' := ?_) #[true, true, true, true, true, true, true, true, true, true, true, true, false] rfl rfl (dG jD.out (by kernel_rfl)) (fun _ _ _ h => h) (Or.inl ⟨by rfl, ?_⟩) ?_ ?_
   rotate_left
   · intro w'
     go_simp
     with_reducible rfl
   rotate_left
   · simp only [Act.put, List.setIfInBounds_toArray, List.set_cons_zero, List.set_cons_succ, bV, bZ]
     rfl
   refine eu (i := 12) (N := some 4) (v := ?_) (a' := ?_) #[true, true, true, true, true, true, true, true, true, true, true, true, true] rfl rfl (dG jD.out (by kernel_rfl)) (fun _ _ _ h => h) (Or.inl ⟨by rfl, ?_⟩) ?_ ?_
   rotate_left
   · intro w'
     go_simp
     with_reducible rfl
   rotate_left
   · simp only [Act.put, List.setIfInBounds_toArray, List.set_cons_zero, List.set_cons_succ, bV, bZ]
     rfl
   refine Js (yx jD.out (by kernel_rfl)) ?_
   try go_wp2
   go_ret
   exact ⟨by first | rfl | (simp [aI, aH] <;> rfl) | (simp [*, aI, aH] <;> rfl), by repeat (first | (with_reducible first | exact HB.out | apply ak | apply ah | apply au | refine aB ?_ qy.out | refine aB ?_ zW.out) | exact HB.out)⟩
def bits_Mul.f (a0 : Int) (a1 : Int) : Option (Int × Int) := (bits_Mul64.f a0 a1).bind fun F7 => (some (F7.1, F7.2))
theorem bits_Mul.calls (a0 : Int) (a1 : Int) (r1 : Int) (r2 : Int) (w : World) (h : bits_Mul.f a0 a1 = some (r1, r2)) :
 Calls Try.prog 131 #[.int .u64 a0, .int .u64 a1] w fun e w' => e = .returned (.tuple #[.int .u64 r1, .int .u64 r2]) ∧ bn w w' := by
 have H : ((bits_Mul64.f a0 a1).bind fun F7 => (some (F7.1, F7.2))) = some (r1, r2) := h
 clear h
 replace H := Option.bind_eq_some_iff.mp H
 obtain ⟨⟨t165, t166⟩, CJ, H⟩ := H
 replace H : (some (t165, t166)) = some (r1, r2) := H
 have A3 := aj.mk CJ
 clear CJ
 simp only [Option.some.injEq, Prod.mk.injEq] at H
 obtain ⟨rfl, rfl⟩ := H
 go_enter Try.func131, Try.ntmps131
 go_wp2_with (first | ((with_reducible refine az (f := 96) rfl ?_); refine aT (some 25) rfl rfl Try.func96 (by kernel_rfl) rfl #[.int .u64 a0, .int .u64 a1] rfl (by (try simp only [List.map_toArray, List.map_cons, List.map_nil]); first | done | rfl | (simp only [List.length_drop, List.length_take]; rfl)) ?_; (with_reducible refine (bits_Mul64.calls a0 a1 t165 t166 _ A3.out).mono ?_); rintro e w' ⟨rfl, ⟨nd, rfl⟩⟩; refine ⟨_, rfl, ?_⟩))
 go_ret2
 exact ⟨by first | rfl | (simp; done) | (simp [*]; done), by repeat (first | exact bn.refl _ | apply bn.step)⟩
def aY.l0 : Nat → List Int → Int → Option (Bool)
 | 0, _, _ => none
 | k + 1, x3, x4 => if x4 < (x3.length : Int) then (if 0 ≤ x4 then (if (rd x3 x4) < 1 then (some false) else (if (rd x3 x4) > 17179869184 then (some false) else (aY.l0 k x3 (wrap64 (x4 + 1))))) else (none)) else (some true)
def aY.f (k : Nat) (bI : Int) (bQ : Int) (vY : Int) (nG : Int) (nD : Int) (vX : Int) : Option (Bool) := aY.l0 k (([bI, bQ, vY, nG, nD, vX] : List Int)) 0
theorem aY.calls (k : Nat) (bI : Int) (bQ : Int) (vY : Int) (nG : Int) (nD : Int) (vX : Int) (r : Bool) (w : World) (h : aY.f k bI bQ vY nG nD vX = some r) :
 Calls Try.prog 14 #[.agg #[.int .i64 bI, .int .i64 bQ, .int .i64 vY, .int .i64 nG, .int .i64 nD, .int .i64 vX]] w fun e w' => e = .returned (.bool r) ∧ Below w.heap.size w w' := by
 have X6 := Try.underlying24
 have HB := aj.mk (Below.refl w.heap.size w)
 have H : (aY.l0 k (([bI, bQ, vY, nG, nD, vX] : List Int)) 0) = some r := h
 clear h
 obtain ⟨qZ, ES⟩ : ∃ y_ : List Int, y_ = (([bI, bQ, vY, nG, nD, vX] : List Int)) := ⟨_, rfl⟩
 replace H : (aY.l0 k qZ 0) = some r := by first | (rw [ES]; with_reducible exact H) | (have WO := (Option.bind_some _ _).symm.trans H; rw [ES]; with_reducible exact WO) | (have WO := (Option.bind_some _ _).symm.trans H; with_reducible exact WO) | with_reducible exact H | (rw [ES]; exact H) | exact H
 have Ui := aj.mk ES
 clear ES
 have H' := aj.mk H
 clear H
 go_enter Try.func14, Try.ntmps14
 go_wp2_with (first | ((with_reducible refine dW (N := 1) rfl ?_); refine dO ?hg (N := 1) ?hd (cs := #[.int .i64 bI, .int .i64 bQ, .int .i64 vY, .int .i64 nG, .int .i64 nD, .int .i64 vX]) (t := 24) ?hr ?_; (case hd => rfl); (case hg => rfl); (case hr => first | (go_simp; done) | (go_simp; rfl)); intro uu hg w2 hbox hb; have bu := aj.mk (aQ (by repeat (first | (with_reducible first | exact HB.out | apply ak | apply ah | apply au) | exact HB.out)) hb); have fH := aj.mk (hbox); have fG := aj.mk ((by rw [hg]; exact (bD (by repeat (first | (with_reducible first | exact HB.out | apply ak | apply ah | apply au) | exact HB.out))) : w.heap.size ≤ uu)); have iG := aj.mk ((by rw [hg]; exact (bD (by repeat (first | (with_reducible first | exact HB.out | apply ak | apply ah | apply au) | exact HB.out))) : w.heap.size ≤ uu)); clear HB; have HB := bu; have lG := fH; have agp := fG; have zV := iG; clear bu fH fG iG; clear hb hbox hg; have VA : w2.cell? ⟨uu, 0, none⟩ = some (.int .i64 bI) := (aC lG.out 0).trans rfl; have Vz : w2.cell? ⟨uu, 1, none⟩ = some (.int .i64 bQ) := (aC lG.out 1).trans rfl; have Vy : w2.cell? ⟨uu, 2, none⟩ = some (.int .i64 vY) := (aC lG.out 2).trans rfl; have Vx : w2.cell? ⟨uu, 3, none⟩ = some (.int .i64 nG) := (aC lG.out 3).trans rfl; have Vw : w2.cell? ⟨uu, 4, none⟩ = some (.int .i64 nD) := (aC lG.out 4).trans rfl; have Vu : w2.cell? ⟨uu, 5, none⟩ = some (.int .i64 vX) := (aC lG.out 5).trans rfl; have Vm := aU lG.out 0; have Vl := aU lG.out 1; have Vk := aU lG.out 2; have Vj := aU lG.out 3; have Vh := aU lG.out 4; have Vg := aU lG.out 5) | ((with_reducible refine dW (N := 17) rfl ?_); refine Kd.YY (Kd.int .i64) _ 22 ?hg (N := 17) ?hd (xs := ([bI, bQ, vY, nG, nD, vX] : List Int)) (inner := [.int .i64 bI, .int .i64 bQ, .int .i64 vY, .int .i64 nG, .int .i64 nD, .int .i64 vX]) (ok := fun _ => True) (okp := fun _ => True) ?hr ?hp (fun _ hk => hk) trivial (Below.refl _ _) (Nat.le_refl _) (by simp) ?_; (case hd => rfl); (case hg => rfl); (case hr => first | (go_simp; done) | (go_simp; rfl)); (case hp => exact (dR.one (show Kd.M (Kd.int .i64) _ _ _ bI [.int .i64 bI] from rfl) (dR.one (show Kd.M (Kd.int .i64) _ _ _ bQ [.int .i64 bQ] from rfl) (dR.one (show Kd.M (Kd.int .i64) _ _ _ vY [.int .i64 vY] from rfl) (dR.one (show Kd.M (Kd.int .i64) _ _ _ nG [.int .i64 nG] from rfl) (dR.one (show Kd.M (Kd.int .i64) _ _ _ nD [.int .i64 nD] from rfl) (dR.one (show Kd.M (Kd.int .i64) _ _ _ vX [.int .i64 vX] from rfl) (dR.none _ _)))))))); intro abM w4 X8 hb hg_ Ya; clear hg_ Ya; (first | rw [← Ui.out] at X8 | (simp only [Int.reduceToNat] at X8; rw [← Ui.out] at X8)); have bu := aj.mk (Kd.nI X8 (bD (by repeat (first | (with_reducible first | exact HB.out | apply ak | apply ah | apply au | refine aB ?_ zV.out) | exact HB.out)))); have fH := aj.mk (bM (g := uu) (o := .cells #[.int .i64 bI, .int .i64 bQ, .int .i64 vY, .int .i64 nG, .int .i64 nD, .int .i64 vX] 24 (0, 0)) (by (with_reducible repeat (first | refine aF ?_ _ | refine aK ?_ | refine aG ?_ _)); exact lG.out) hb); have fG := aj.mk (aQ (by repeat (first | (with_reducible first | exact HB.out | apply ak | apply ah | apply au | refine aB ?_ zV.out) | exact HB.out)) hb); clear lG; clear HB; have ZP := bu; have lG := fH; have HB := fG; clear bu fH fG; clear hb X8))
 go_loopg [4] k (fun kq v4 w' => ∃ (kH : Int), v4 = .int .i64 kH ∧ aj (aY.l0 kq qZ kH = some r) ∧ aj (kq ≤ k) ∧ aj (Kd.R (Kd.int .i64) 22 w' w.heap.size (fun _ => True) abM qZ) ∧ aj (w'.heap[uu]? = some (.cells #[.int .i64 bI, .int .i64 bQ, .int .i64 vY, .int .i64 nG, .int .i64 nD, .int .i64 vX] 24 (0, 0))) ∧ aj (Below w.heap.size w w'))
 case atStart => exact ⟨(0), (by first | rfl | (simp; done) | (simp [*]; done)), H', ⟨Nat.le_refl _⟩, ⟨by (with_reducible repeat (first | apply Kd.fA | apply Kd.eY | apply Kd.fU)); exact ZP.out⟩, ⟨by (with_reducible repeat (first | refine aF ?_ _ | refine aK ?_ | refine aG ?_ _)); exact lG.out⟩, ⟨by repeat (first | (with_reducible first | exact HB.out | apply ak | apply ah | apply au | refine aB ?_ zV.out) | exact HB.out)⟩⟩
 case round =>
  clear H'
  try clear c1
  try clear p2
  try clear VA
  try clear Vz
  try clear Vy
  try clear Vx
  try clear Vw
  try clear Vu
  try clear Vm
  try clear Vl
  try clear Vk
  try clear Vj
  try clear Vh
  try clear Vg
  obtain ⟨kH, rfl, HA, wz, AQ, lG, HB⟩ := hrel
  cases gk with
  | zero => exact absurd HA.out (by simp [aY.l0])
  | succ k1 =>
    have H := HA.out
    clear HA
    simp only [aY.l0] at H
    by_cases c6 : kH < (qZ.length : Int)
    · rw [if_pos c6] at H
      have zB : decide (kH < (qZ.length : Int)) = true := decide_eq_true c6
      clear c6
      by_cases c7 : 0 ≤ kH
      · rw [if_pos c7] at H
        have wX : decide (0 ≤ kH) = true := decide_eq_true c7
        clear c7
        by_cases c8 : (rd qZ kH) < 1
        · rw [if_pos c8] at H
          have DN : decide ((rd qZ kH) < 1) = true := decide_eq_true c8
          clear c8
          obtain rfl := Option.some.inj H
          obtain ⟨Ao9, co9, eo9⟩ := Kd.jg AQ.out
          subst eo9
          have yQ : 0 ≤ (kH : Int) := of_decide_eq_true (by first | (with_reducible assumption) | assumption)
          have yP : kH < (qZ.length : Int) := of_decide_eq_true (by first | (with_reducible assumption) | assumption)
          obtain ⟨JD, e187, Ji⟩ := Kd.pR (Kd.iQ AQ.out).2.2 kH yQ yP
          cases e187
          replace yQ := eq_true yQ
          replace yP := eq_true yP
          go_wp2
          go_ret
          exact ⟨by first | rfl | (simp [aI, aH] <;> rfl) | (simp [*, aI, aH] <;> rfl), by repeat (first | (with_reducible first | exact HB.out | apply ak | apply ah | apply au | refine aB ?_ zV.out) | exact HB.out)⟩
        · rw [if_neg c8] at H
          have DN : decide ((rd qZ kH) < 1) = false := decide_eq_false c8
          clear c8
          by_cases c10 : (rd qZ kH) > 17179869184
          · rw [if_pos c10] at H
            have zF : decide (17179869184 < (rd qZ kH)) = true := decide_eq_true c10
            clear c10
            obtain rfl := Option.some.inj H
            obtain ⟨aiI, ah8, acP⟩ := Kd.jg AQ.out
            subst acP
            have yQ : 0 ≤ (kH : Int) := of_decide_eq_true (by first | (with_reducible assumption) | assumption)
            have yP : kH < (qZ.length : Int) := of_decide_eq_true (by first | (with_reducible assumption) | assumption)
            obtain ⟨JD, e187, Ji⟩ := Kd.pR (Kd.iQ AQ.out).2.2 kH yQ yP
            cases e187
            replace yQ := eq_true yQ
            replace yP := eq_true yP
            have He : 0 ≤ (kH : Int) := of_decide_eq_true (by first | (with_reducible assumption) | assumption)
            have G8 : kH < (qZ.length : Int) := of_decide_eq_true (by first | (with_reducible assumption) | assumption)
            obtain ⟨Pn, VJ, Qu⟩ := Kd.pR (Kd.iQ AQ.out).2.2 kH He G8
            obtain rfl : JD = Pn := (by injection VJ)
            replace He := eq_true He
            replace G8 := eq_true G8
            go_wp2
            go_ret
            exact ⟨by first | rfl | (simp [aI, aH] <;> rfl) | (simp [*, aI, aH] <;> rfl), by repeat (first | (with_reducible first | exact HB.out | apply ak | apply ah | apply au | refine aB ?_ zV.out) | exact HB.out)⟩
          · rw [if_neg c10] at H
            have zF : decide (17179869184 < (rd qZ kH)) = false := decide_eq_false c10
            clear c10
            have H' := aj.mk H
            clear H
            obtain ⟨WV, VP, VH⟩ := Kd.jg AQ.out
            subst VH
            have yQ : 0 ≤ (kH : Int) := of_decide_eq_true (by first | (with_reducible assumption) | assumption)
            have yP : kH < (qZ.length : Int) := of_decide_eq_true (by first | (with_reducible assumption) | assumption)
            obtain ⟨JD, e187, Ji⟩ := Kd.pR (Kd.iQ AQ.out).2.2 kH yQ yP
            cases e187
            replace yQ := eq_true yQ
            replace yP := eq_true yP
            have He : 0 ≤ (kH : Int) := of_decide_eq_true (by first | (with_reducible assumption) | assumption)
            have G8 : kH < (qZ.length : Int) := of_decide_eq_true (by first | (with_reducible assumption) | assumption)
            obtain ⟨Pn, VJ, Qu⟩ := Kd.pR (Kd.iQ AQ.out).2.2 kH He G8
            obtain rfl : JD = Pn := (by injection VJ)
            replace He := eq_true He
            replace G8 := eq_true G8
            go_wp2
            go_roundg k1
            case measure => have := wz.out; omega
            case rel => exact ⟨(wrap64 (kH + 1)), (by first | rfl | (simp; done) | (simp [*]; done)), H', ⟨by have := wz.out; omega⟩, ⟨by (with_reducible repeat (first | apply Kd.fA | apply Kd.eY | apply Kd.fU)); exact AQ.out⟩, ⟨by (with_reducible repeat (first | refine aF ?_ _ | refine aK ?_ | refine aG ?_ _)); exact lG.out⟩, ⟨by repeat (first | (with_reducible first | exact HB.out | apply ak | apply ah | apply au | refine aB ?_ zV.out) | exact HB.out)⟩⟩
      · rw [if_neg c7] at H
        exact absurd H (by simp)
    · rw [if_neg c6] at H
      have zB : decide (kH < (qZ.length : Int)) = false := decide_eq_false c6
      clear c6
      obtain rfl := Option.some.inj H
      obtain ⟨aiH, ah7, acO⟩ := Kd.jg AQ.out
      subst acO
      go_wp2
      go_ret
      exact ⟨by first | rfl | (simp [aI, aH] <;> rfl) | (simp [*, aI, aH] <;> rfl), by repeat (first | (with_reducible first | exact HB.out | apply ak | apply ah | apply au | refine aB ?_ zV.out) | exact HB.out)⟩
end Go.Proofs.Ytnijhjbcjeohhaa.PQ

namespace Go.Proofs.Ytnijhjbcjeohhaa.PQ
open Go.RowKit Go.Proofs.af.aA Go.Proofs.af.aN Go.Proofs.af.aP
attribute [local go_sem] gz gu jc iZ fD fC gy gq
set_option linter.unusedVariables false
set_option linter.unusedSimpArgs false
end Go.Proofs.Ytnijhjbcjeohhaa.PQ

namespace Go.Proofs.Ytnijhjbcjeohhaa.PQ
open Go.RowKit Go.Proofs.af.aA Go.Proofs.af.aN Go.Proofs.af.aP
attribute [local go_sem] gz gu jc iZ fD fC gy gq
set_option linter.unusedVariables false
set_option linter.unusedSimpArgs false
end Go.Proofs.Ytnijhjbcjeohhaa.PQ

namespace Go.Proofs.Ytnijhjbcjeohhaa.PQ
open Go.RowKit Go.Proofs.af.aA Go.Proofs.af.aN Go.Proofs.af.aP
attribute [local go_sem] gz gu jc iZ fD fC gy gq
set_option linter.unusedVariables false
set_option linter.unusedSimpArgs false
end Go.Proofs.Ytnijhjbcjeohhaa.PQ

namespace Go.Proofs.Ytnijhjbcjeohhaa.PQ
open Go.RowKit Go.Proofs.af.aA Go.Proofs.af.aN Go.Proofs.af.aP
attribute [local go_sem] gz gu jc iZ fD fC gy gq
set_option linter.unusedVariables false
set_option linter.unusedSimpArgs false
end Go.Proofs.Ytnijhjbcjeohhaa.PQ

namespace Go.Proofs.Ytnijhjbcjeohhaa.KK
open Go.RowKit Go.Proofs.af.aA Go.Proofs.af.aN Go.Proofs.af.aP
set_option linter.unusedVariables false
set_option linter.unusedSimpArgs false
abbrev I (n : Int) : Value := .int .i64 n
def Row (w : World) (B : Nat) (t : TypeId) (cs : Array Value) : Prop := w.heap[B]? = some (.cells cs t (0, 0))
section
variable {w w' : World} {B : Nat} {t : TypeId} {cs : Array Value}
theorem Row.cell (h : Row w B t cs) (i : Nat) : w.cell? ⟨B, i, none⟩ = cs[i]? := by unfold Row at h; simp [World.cell?, h]
theorem Row.free (h : Row w B t cs) (i : Nat) : w.frozen? ⟨B, i, none⟩ = false := by unfold Row at h; simp [World.frozen?, h]
theorem Row.lt (h : Row w B t cs) : B < w.heap.size := by
 rcases Nat.lt_or_ge B w.heap.size with hl | hl
 · exact hl
 · unfold Row at h; rw [Array.getElem?_eq_none hl] at h; cases h
theorem Row.new (w : World) (t : TypeId) (cs : Array Value) : Row (w.alloc (.cells cs t)) w.heap.size t cs := heap_alloc_new w _
theorem Row.alloc (h : Row w B t cs) (o : Obj) : Row (w.alloc o) B t cs := (Below.heap_alloc w o B h.lt).trans h
theorem Row.drew (h : Row w B t cs) : Row w.drew B t cs := h
theorem Row.below {n : Nat} (h : Row w B t cs) (hb : Below n w w') (hn : B < n) : Row w' B t cs := (hb.block B hn).trans h
theorem Row.set (h : Row w B t cs) (i : Nat) (u : Value) : Row (w.setCell ⟨B, i, none⟩ u) B t (cs.setIfInBounds i u) := by
 unfold Row at h ⊢
 simp [World.setCell, Array.getElem?_modify, h]
theorem Row.far (h : Row w B t cs) {p : Addr} (hp : B ≠ p.block) (u : Value) : Row (w.setCell p u) B t cs := (Below.heap_setCell w p u B hp).trans h
theorem Row.grown {r : Option Nat} (h : Row w B t cs) (hg : w.grownBy w' r) (hr : some B ≠ r) : Row w' B t cs := (hg.block B h.lt hr).trans h
end
theorem b_ {w w1 : World} (hb : Below w.heap.size w w1) (r : Option Nat) : w.grownBy w1 r := ⟨hb.os, hb.tape, hb.output, hb.size, fun k hk _ => hb.block k hk⟩
theorem a_ {w w1 w2 : World} {r : Option Nat} (h : w.grownBy w1 r) (h' : w1.grownBy w2 r) : w.grownBy w2 r :=
 ⟨h'.os.trans h.os, h'.tape.trans h.tape, h'.output.trans h.output, Nat.le_trans h.size h'.size, fun k hk hr => (h'.block k (Nat.lt_of_lt_of_le hk h.size) hr).trans (h.block k hk hr)⟩
theorem cell_lt {w : World} {a : Addr} {v : Value} (h : w.cell? a = some v) : a.block < w.heap.size := by
 rcases Nat.lt_or_ge a.block w.heap.size with hl | hl
 · exact hl
 · simp [World.cell?, Array.getElem?_eq_none hl] at h
theorem qJ (a : Addr) (n : Nat) : (a.add n).block = a.block := by unfold Addr.add; split <;> rfl
theorem Dc {w : World} {a : Addr} {v : Value} (h : w.cell? a = some v) : a = ⟨a.block, a.off, none⟩ := by
 obtain ⟨b, o, s⟩ := a
 unfold World.cell? at h
 split at h
 · split at h
   · cases h
   · rename_i hs; cases s with
     | none => rfl
     | some y => simp at hs
 · cases h
def Rows (w : World) : Nat → List (TypeId × Array Value) → Prop
 | _, [] => True
 | b, x :: l => Row w b x.1 x.2 ∧ Rows w (b + 1) l
section
variable {w w' w0 : World} {b : Nat} {L : List (TypeId × Array Value)}
theorem Rows.imp (h : ∀ k t cs, b ≤ k → k < b + L.length → Row w k t cs → Row w' k t cs) (H : Rows w b L) : Rows w' b L := by
 induction L generalizing b with
 | nil => trivial
 | cons x l ih =>
   refine ⟨h b _ _ (Nat.le_refl _) (by simp) H.1, ih (fun k t cs h1 h2 => h k t cs (by omega) (by simp; omega)) H.2⟩
theorem Rows.le (H : Rows w b L) (hb : b ≤ w.heap.size) : b + L.length ≤ w.heap.size := by
 induction L generalizing b with
 | nil => simpa using hb
 | cons x l ih => have := ih H.2 H.1.lt; simp; omega
theorem Rows.alloc (h : Rows w b L) (o : Obj) : Rows (w.alloc o) b L := h.imp fun _ _ _ _ _ r => r.alloc o
theorem Rows.drew (h : Rows w b L) : Rows w.drew b L := h.imp fun _ _ _ _ _ r => r.drew
theorem Rows.below (h : Rows w b L) (hb : Below w.heap.size w w') : Rows w' b L := h.imp fun _ _ _ _ _ r => r.below hb r.lt
theorem Rows.uS (j : Nat) (t : TypeId) (cs : Array Value) (hr : Row w' (b + j) t cs) (h : ∀ k t cs, k ≠ b + j → Row w k t cs → Row w' k t cs) (H : Rows w b L) : Rows w' b (L.set j (t, cs)) := by
 induction L generalizing b j with
 | nil => trivial
 | cons x l ih =>
   cases j with
   | zero => exact ⟨hr, H.2.imp fun k t cs h1 h2 => h k t cs (by omega)⟩
   | succ j => exact ⟨h _ _ _ (by omega) H.1, ih j (by rwa [Nat.add_assoc, Nat.add_comm 1]) (fun k t cs h1 => h k t cs (by omega)) H.2⟩
theorem Rows.push (H : Rows w b L) (h : w.heap.size = b + L.length) (t : TypeId) (cs : Array Value) : Rows (w.alloc (.cells cs t)) b (L ++ [(t, cs)]) := by
 have := (H.alloc (.cells cs t))
 have e := Row.new w t cs
 rw [h] at e
 clear H h
 induction L generalizing b with
 | nil => exact ⟨e, trivial⟩
 | cons x l ih => exact ⟨this.1, ih this.2 (by simp only [List.length_cons] at e; rwa [Nat.add_assoc, Nat.add_comm 1])⟩
end
structure aS (w0 : World) (L : List (TypeId × Array Value)) (w : World) : Prop where
 rows : Rows w w0.heap.size L
 be : Below w0.heap.size w0 w
section
variable {w w' w0 : World} {L : List (TypeId × Array Value)}
theorem aS.none (w : World) : aS w [] w := ⟨trivial, Below.refl _ w⟩
theorem aS.push (h : aS w0 L w) (e : w.heap.size = w0.heap.size + L.length) (t : TypeId) (cs : Array Value) : aS w0 (L ++ [(t, cs)]) (w.alloc (.cells cs t)) :=
 ⟨h.rows.push e t cs, h.be.alloc h.be.size _⟩
theorem aS.alloc (h : aS w0 L w) (o : Obj) : aS w0 L (w.alloc o) := ⟨h.rows.alloc o, h.be.alloc h.be.size o⟩
theorem aS.drew (h : aS w0 L w) : aS w0 L w.drew := ⟨h.rows.drew, h.be.drew⟩
theorem aS.below (h : aS w0 L w) (hb : Below w.heap.size w w') : aS w0 L w' := ⟨h.rows.below hb, h.be.trans (hb.mono h.be.size)⟩
theorem aS.put (j : Nat) (h : aS w0 L w) (t : TypeId) (cs : Array Value) (hr : Row w (w0.heap.size + j) t cs) (i : Nat) (u : Value) : aS w0 (L.set j (t, cs.setIfInBounds i u)) (w.setCell ⟨w0.heap.size + j, i, .none⟩ u) :=
 ⟨h.rows.uS j t _ (hr.set i u) fun k t cs hk r => r.far (by simpa using hk) u, h.be.setCell (by simp) u⟩
variable {x0 x1 x2 x3 x4 x5 : TypeId × Array Value}
theorem aS.r0 (h : aS w0 (x0 :: L) w) : Row w w0.heap.size x0.1 x0.2 := h.rows.1
theorem aS.r1 (h : aS w0 (x0 :: x1 :: L) w) : Row w (w0.heap.size + 1) x1.1 x1.2 := h.rows.2.1
theorem aS.r2 (h : aS w0 (x0 :: x1 :: x2 :: L) w) : Row w (w0.heap.size + 1 + 1) x2.1 x2.2 := h.rows.2.2.1
theorem aS.r3 (h : aS w0 (x0 :: x1 :: x2 :: x3 :: L) w) : Row w (w0.heap.size + 1 + 1 + 1) x3.1 x3.2 := h.rows.2.2.2.1
theorem aS.r4 (h : aS w0 (x0 :: x1 :: x2 :: x3 :: x4 :: L) w) : Row w (w0.heap.size + 1 + 1 + 1 + 1) x4.1 x4.2 := h.rows.2.2.2.2.1
theorem aS.r5 (h : aS w0 (x0 :: x1 :: x2 :: x3 :: x4 :: x5 :: L) w) : Row w (w0.heap.size + 1 + 1 + 1 + 1 + 1) x5.1 x5.2 := h.rows.2.2.2.2.2.1
end
theorem aS.app {w0 w w' : World} {L : List (TypeId × Array Value)} {r : Option Nat} (h : aS w0 L w) (hg : w.grownBy w' r) (hr : ∀ g, r = some g → w0.heap.size + L.length ≤ g) : aS w0 L w' :=
 ⟨h.rows.imp fun k t cs _ hk r' => r'.grown hg (fun e => by have := hr k e.symm; omega), ⟨hg.os.trans h.be.os, hg.tape.trans h.be.tape, hg.output.trans h.be.output, Nat.le_trans h.be.size hg.size, fun k hk => (hg.block k (Nat.lt_of_lt_of_le hk h.be.size) (fun e => by have := hr k e.symm; omega)).trans (h.be.block k hk)⟩⟩
abbrev Rd (w : World) (A : Option Addr) (l : List Int) : Prop := Kd.C (Kd.int .i64) w A l.length l
abbrev Own (w : World) (base : Nat) (v : Value) (l : List Int) : Prop := Kd.R (Kd.int .i64) 22 w base (fun _ => True) v l
theorem Rd.cells {w : World} {A : Option Addr} {l : List Int} (h : Rd w A l) (hne : 0 < l.length) : ∃ b off, A = some ⟨b, off, none⟩ ∧ b < w.heap.size ∧ ∀ (j : Nat) (x : Int), l[j]? = some x → w.cell? ⟨b, off + j, none⟩ = some (I x) := by
 obtain ⟨ad, rfl, hc⟩ := h.2.2 hne
 have key : ∀ (j : Nat) (x : Int), l[j]? = some x → w.cell? (ad.add j) = some (I x) := fun j x hx => by
  obtain ⟨c, _, hr, hcell⟩ := hc j x hx
  have e : c = [I x] := hr
  subst e
  have h1 : (Kd.int .i64).sz = 1 := rfl
  have := hcell 0 _ rfl
  rw [h1, Nat.mul_one, Nat.add_zero] at this
  exact this
 have h0 := key 0 _ (List.getElem?_eq_getElem hne)
 have ea0 : ad.add 0 = ad := by simp [Addr.add]
 rw [ea0] at h0
 have hs := Dc h0
 have hl := cell_lt h0
 obtain ⟨ab, ao, asp⟩ := ad
 injection hs with _ _ hs
 subst hs
 refine ⟨ab, ao, rfl, hl, fun j x hx => ?_⟩
 have := key j x hx
 unfold Addr.add at this
 by_cases hj : j = 0
 · subst hj
   rw [if_pos rfl] at this
   exact this
 · rw [if_neg hj] at this
   exact this
theorem Rd.below {w w' : World} {A : Option Addr} {l : List Int} (h : Rd w A l) (hb : Below w.heap.size w w') : Rd w' A l := Kd.jZ h hb
theorem Own.reads {w : World} {base : Nat} {v : Value} {l : List Int} (h : Own w base v l) : ∃ A c, v = .slice A l.length c ∧ l.length ≤ c ∧ Rd w A l := Kd.yB h
theorem Own.below {w w' : World} {base : Nat} {v : Value} {l : List Int} (h : Own w base v l) (hb : Below w.heap.size w w') : Own w' base v l := Kd.nJ h hb
theorem Own.lower {w : World} {base base' : Nat} {v : Value} {l : List Int} (h : Own w base v l) (hb : base' ≤ base) : Own w base' v l := Kd.nI h hb
theorem Own.row {w : World} {base : Nat} {v : Value} {l : List Int} (h : Own w base v l) : w.ownsRow base 22 1 v l.length (l.map I) := by
 exact Kd.yR (enc := I) h
theorem Own.rM {w : World} {base : Nat} {v : Value} {l : List Int} (h : w.ownsRow base 22 1 v l.length (l.map I)) : Own w base v l := Kd.Gj (enc := I) h (fun _ _ => trivial)
end Go.Proofs.Ytnijhjbcjeohhaa.KK

namespace Go.Proofs.Ytnijhjbcjeohhaa.KK
open Go.RowKit Go.Proofs.af.aA Go.Proofs.af.aN Go.Proofs.af.aP
set_option linter.unusedVariables false
set_option linter.unusedSimpArgs false
theorem G7 : (Try.prog.info? 22).map (fun i => (i.zero, i.size, i.bytes)) = some (some (I 0), 1, 8) := by kernel_rfl
theorem D9 (w : World) {ops : Array Oper} {rest : List Oper} {o : Oper} {a : Act} {Q : Exit → Act → World → Prop} (hgd : o.guard = none) (s x : Operand)
 (ho : o.op = .call { callee := .builtin .append, args := #[s, x], argTypes := #[29, 29] })
 (base : Nat) (v : Value) (l : List Int) (q : Int) (bx : Nat) (hs : a.eval s = v) (hx : a.eval x = .slice (some ⟨bx, 0, none⟩) 1 1) (hown : Own w base v l) (hc : w.cell? ⟨bx, 0, none⟩ = some (I q)) (hbase : base ≤ w.heap.size) (hlen : l.length ≤ 1000000)
 (h : ∀ A c w', Own w' base (.slice A (l.length + 1) c) (l ++ [q]) → w.grownBy w' v.ownBlock → ((Value.slice A (l.length + 1) c).ownBlock = v.ownBlock ∨ (Value.slice A (l.length + 1) c).ownBlock = some w.heap.size) → wpList Try.prog ops Q rest (a.put o.dst (.slice A (l.length + 1) c)) w') :
 wpList Try.prog ops Q (o :: rest) a w := by
 obtain ⟨i0, hi0, hz0, hz1, hz2⟩ := info_parts G7
 refine wpList_append_own_at w hgd s x 29 ho base 22 i0 (I 0) 1 8 Try.underlying29 hi0 hz0 hz1 hz2 rfl (by omega) v l.length (l.map I) hs hown.row ⟨bx, 0, none⟩ 1 1 [I q] hx rfl ?_ ?_ (by simp only [maxLen]; omega) (by omega) hbase ?_
 · intro j u hj
   match j, hj with
   | 0, hj =>
     simp at hj
     subst hj
     simpa [Addr.add] using hc
 · intro u hu
   simp at hu
   subst hu
   rfl
 · intro v' w' hown' hg _ hat
   have hl : (l ++ [q]).length = l.length + 1 := by simp
   have ho2 : Own w' base v' (l ++ [q]) := Own.rM (by rw [hl, List.map_append]; exact hown')
   obtain ⟨A, c, rfl, _, _⟩ := ho2.reads
   rw [hl] at ho2 hat ⊢
   exact h A c w' ho2 hg hat
theorem oW {l : List Int} {j : Nat} (h : j < l.length) : l[j]? = some (l.getD j 0) := by
 rw [List.getD_eq_getElem?_getD, List.getElem?_eq_getElem h]; rfl
theorem jV (r : Int) (c : Nat) (A : Option Addr) (cap : Nat) (l : List Int) (i k : Nat) (w : World) (hl : Rd w A l) (h : i * c + k < l.length) (hle : l.length ≤ 1000000) :
 Calls Try.prog 110 #[.agg #[I r, I c, .slice A l.length cap], I i, I k] w fun e w' => e = .returned (I (l.getD (i * c + k) 0)) ∧ Below w.heap.size w w' := by
 obtain ⟨b, off, rfl, hb, hc⟩ := hl.cells (by omega)
 have x := hc _ _ (oW h)
 have hb0 : Hid (Below w.heap.size w (w.alloc (.cells #[I r, I c, .slice (some ⟨b, off, none⟩) l.length cap] 31))) := Lib.hid ((Below.refl _ _).alloc (Nat.le_refl _) _)
 obtain ⟨q, hq⟩ : ∃ q, l.getD (i * c + k) 0 = q := ⟨_, rfl⟩
 rw [hq] at x ⊢
 obtain ⟨p, hp⟩ : ∃ p : Nat, i * c = p := ⟨_, rfl⟩
 have hp2 : (i : Int) * (c : Int) = (p : Int) := by rw [← hp]; push_cast; rfl
 have hw1 : IntKind.i64.wrap ((i : Int) * (c : Int)) = (p : Int) := by rw [hp2]; simp [IntKind.wrap, IntKind.bits, IntKind.signed]; omega
 rw [hp] at x h
 have hw2 : IntKind.i64.wrap ((p : Int) + (k : Int)) = ((p + k : Nat) : Int) := by simp [IntKind.wrap, IntKind.bits, IntKind.signed]; omega
 obtain ⟨j, hj⟩ : ∃ j : Nat, p + k = j := ⟨_, rfl⟩
 rw [hj] at x h hw2
 have hj0 : (0 : Int) ≤ (j : Int) := by omega
 have hj1 : (j : Int) < l.length := by omega
 clear hq hp hp2 hj hc hl h
 go_enter Try.func110, Try.ntmps110
 go_wp2
 go_ret
 exact ⟨rfl, hb0.out⟩
end Go.Proofs.Ytnijhjbcjeohhaa.KK

namespace Go.Proofs.Ytnijhjbcjeohhaa.KK
open Go.RowKit Go.Proofs.af.aA Go.Proofs.af.aN Go.Proofs.af.aP
set_option linter.unusedVariables false
set_option linter.unusedSimpArgs false
abbrev bG (w : World) (C : Nat) (a b c : Value) : World := ((w.setCell ⟨C, 0, none⟩ a).setCell ⟨C, 1, none⟩ b).setCell ⟨C, 2, none⟩ c
section
variable {w w0 : World} {B C : Nat} {t : TypeId} {cs : Array Value} {a b c : Value}
theorem Row.bG {a' b' c' : Value} (h : Row w B t #[a', b', c']) (a b c : Value) : Row (bG w B a b c) B t #[a, b, c] := by
 simpa using ((h.set 0 a).set 1 b).set 2 c
theorem Row.oM (h : Row w B t cs) (hne : B ≠ C) : Row (KK.bG w C a b c) B t cs :=
 ((h.far (p := ⟨C, 0, none⟩) hne a).far (p := ⟨C, 1, none⟩) hne b).far (p := ⟨C, 2, none⟩) hne c
theorem Below.bG {B : Nat} (h : Below B w0 w) (hC : B ≤ C) (a b c : Value) : Below B w0 (KK.bG w C a b c) :=
 ((h.setCell (p := ⟨C, 0, none⟩) hC a).setCell (p := ⟨C, 1, none⟩) hC b).setCell (p := ⟨C, 2, none⟩) hC c
theorem Own.far {base : Nat} {v : Value} {l : List Int} (h : Own w base v l) {p : Addr} (hp : p.block < base) (u : Value) : Own (w.setCell p u) base v l :=
 Own.rM (mg h.row fun k hk => Below.heap_setCell w p u k (by have := (h.row.lt k hk).1; omega))
theorem Own.bG {base : Nat} {v : Value} {l : List Int} (h : Own w base v l) (hp : C < base) (a b c : Value) : Own (KK.bG w C a b c) base v l :=
 ((h.far (p := ⟨C, 0, none⟩) hp a).far (p := ⟨C, 1, none⟩) hp b).far (p := ⟨C, 2, none⟩) hp c
theorem Own.alloc {base : Nat} {v : Value} {l : List Int} (h : Own w base v l) (o : Obj) : Own (w.alloc o) base v l := h.below ((Below.refl _ _).alloc (Nat.le_refl _) o)
theorem Own.nil (w : World) (base : Nat) : Own w base (.slice none 0 0) [] := Kd.YX _ _ _ _ _
end
section
variable {w : World} {B : Nat} {a b c : Value} {fn : Func} {k j m : Nat} {tmps : Array Value}
theorem Qd (h : fn.results = #[.cell k 31]) (hk : tmps.getD k undef = .pointer (some ⟨B, 0, none⟩)) (R : Row w B 31 #[a, b, c]) :
 (results fn tmps).run Try.prog w = .ok (.agg #[a, b, c]) w := by
 have c := R.cell
 have hk' : tmps[k]?.getD undef = .pointer (some ⟨B, 0, none⟩) := by simpa using hk
 simp only [results, h]
 simp [go_sem, hk', c]
theorem I_ (h : fn.results = #[.cell k 31, .tmp j]) (hk : tmps.getD k undef = .pointer (some ⟨B, 0, none⟩)) (R : Row w B 31 #[a, b, c]) :
 (results fn tmps).run Try.prog w = .ok (.tuple #[.agg #[a, b, c], tmps.getD j undef]) w := by
 have c := R.cell
 have hk' : tmps[k]?.getD undef = .pointer (some ⟨B, 0, none⟩) := by simpa using hk
 simp only [results, h]
 simp [go_sem, hk', c]
theorem rG (h : fn.results = #[.cell k 31, .tmp j, .tmp m]) (hk : tmps.getD k undef = .pointer (some ⟨B, 0, none⟩)) (R : Row w B 31 #[a, b, c]) :
 (results fn tmps).run Try.prog w = .ok (.tuple #[.agg #[a, b, c], tmps.getD j undef, tmps.getD m undef]) w := by
 have c := R.cell
 have hk' : tmps[k]?.getD undef = .pointer (some ⟨B, 0, none⟩) := by simpa using hk
 simp only [results, h]
 simp [go_sem, hk', c]
end
def upto (c : Nat) (q : Nat → Nat → Int) (i : Nat) : List Int := (List.range i).flatMap fun i => (List.range c).map (q i)
def sH (c : Nat) (o : Nat → Nat → Bool) (i : Nat) : Bool := (List.range i).any fun i => (List.range c).any (o i)
section
variable {c i k : Nat} {q : Nat → Nat → Int} {o : Nat → Nat → Bool}
theorem upto_length : (upto c q i).length = i * c := by
 induction i with
 | zero => simp [upto]
 | succ i ih =>
   unfold upto at ih ⊢
   rw [List.range_succ, List.flatMap_append, List.length_append, ih]
   simp [Nat.succ_mul]
theorem upto_succ : upto c q (i + 1) = upto c q i ++ (List.range c).map (q i) := by
 unfold upto
 rw [List.range_succ, List.flatMap_append]
 simp
theorem Ir : sH c o (i + 1) = (sH c o i || (List.range c).any (o i)) := by
 unfold sH
 rw [List.range_succ, List.any_append]
 simp
theorem ND : (List.range (k + 1)).map (q i) = (List.range k).map (q i) ++ [q i k] := by
 rw [List.range_succ, List.map_append]; rfl
theorem Ph : (List.range (k + 1)).any (o i) = ((List.range k).any (o i) || o i k) := by
 rw [List.range_succ, List.any_append]; simp
end
def Enters (n : Nat) : Prop := ∀ (args : Array Value) (w : World), (callFunc n args).run Try.prog w = .ok (.enter n args) w
theorem enters {n : Nat} {fn : Func} (h : Try.prog.funcs[n]? = some fn) (hn : (fn.name == "runtime.NumGoroutine") = false) (hb : fn.body.isNone = false) : Enters n := fun args w => by
 unfold callFunc
 simp only [Sem.run_bind, go_sem, Result.andThen_ok]
 show Sem.run Try.prog _ w = _
 rw [h]
 simp only [hn, hb, Sem.run_pure]
 rfl
def vZ (w : World) (n : Nat) (cap : Array Value) (r c : Nat) (q : Nat → Nat → Int) (o : Nat → Nat → Bool) : Prop :=
 ∀ (i k : Nat) (w' : World), i < r → k < c → Below w.heap.size w w' → Calls Try.prog n (#[I i, I k] ++ cap) w' fun e w'' => e = .returned (.tuple #[I (q i k), .bool (o i k)]) ∧ Below w'.heap.size w' w''
theorem Hw (n : Nat) (cap : Array Value) (r c : Nat) (q : Nat → Nat → Int) (o : Nat → Nat → Bool) (w : World) (hr : r ≤ 8) (hc : c ≤ 8) (he : Enters n) (ht : vZ w n cap r c q o) :
 Calls Try.prog 82 #[.agg #[I r, I c], .func (.func n) #[] cap] w fun e w' => ∃ v, e = .returned (.tuple #[.agg #[I r, I c, v], .bool (sH c o r)]) ∧ Own w' w.heap.size v (upto c q r) ∧ Below w.heap.size w w' := by
 have HR := Lib.hid hr
 have HC := Lib.hid hc
 have HT := Lib.hid ht
 have HE := Lib.hid he
 clear hr hc ht he
 have N : Hid (aS w [(134, #[I r, I c]), (31, #[I 0, I 0, .slice none 0 0]), (31, #[I r, I c, .slice none 0 0])] (((w.alloc (.cells #[I r, I c] 134)).alloc (.cells #[I 0, I 0, .slice none 0 0] 31)).alloc (.cells #[I r, I c, .slice none 0 0] 31))) := Lib.hid ((((aS.none w).push (by simp) _ _).push (by simp) _ _).push (by simp) _ _)
 go_enter Try.func82, Try.ntmps82
 go_wp2_with fail
 go_loopw [7, 19] (fun od ii wr => ∃ (i : Nat) (b : Bool) (l : List Int) (A : Option Addr) (cp : Nat), i ≤ r ∧ ii = .int .i64 i ∧ od = .bool b ∧ Hid (l = upto c q i ∧ b = sH c o i) ∧ Hid (aS w [(134, #[I r, I c]), (31, #[I 0, I 0, .slice none 0 0]), (31, #[I r, I c, .slice A l.length cp])] wr) ∧ Hid (Own wr (w.heap.size + 3) (.slice A l.length cp) l)) (fun _ ii _ => r - (intOf ii).toNat)
 case atStart => exact ⟨0, false, [], none, 0, by omega, rfl, rfl, Lib.hid ⟨rfl, rfl⟩, N, Lib.hid (Own.nil _ _)⟩
 case round =>
  clear N
  obtain ⟨i, b, l, A, cp, hi, rfl, rfl, E, N, O⟩ := hrel
  have x0 := N.out.r0.cell
  have x2 := N.out.r2.cell
  have t0 := N.out.r0.lt
  have t2 := N.out.r2.lt
  by_cases hir : i = r
  · subst hir
    have x1 := N.out.r1.cell
    have g1 := N.out.r1.free
    have t1 := N.out.r1.lt
    go_wp2
    refine bodyPost_ret (I_ rfl rfl (N.out.r1.bG _ _ _)) rfl ⟨_, by rw [← E.out.2]; rfl, ?_, Below.bG N.out.be (by omega) _ _ _⟩
    rw [← E.out.1]
    exact (O.out.bG (by omega) _ _ _).lower (by omega)
  have hlt : (i : Int) < r := by omega
  have STEP : Hid (i + 1 ≤ r ∧ r - (i + 1) < r - i) := Lib.hid (by omega)
  have hw64 : IntKind.i64.wrap ((i : Int) + 1) = (i : Int) + 1 := by have := HR.out; simp [IntKind.wrap, IntKind.bits, IntKind.signed]; omega
  have HI := Lib.hid (show i < r by omega)
  have HL : Hid (l.length = i * c) := Lib.hid (by rw [E.out.1]; exact upto_length)
  clear hi hir
  go_wp2_with fail
  go_loopw [7, 24] (fun od kk wr => ∃ (k : Nat) (b2 : Bool) (l2 : List Int) (A2 : Option Addr) (c2 : Nat), k ≤ c ∧ kk = .int .i64 k ∧ od = .bool b2 ∧ Hid (l2 = l ++ (List.range k).map (q i) ∧ b2 = (b || (List.range k).any (o i))) ∧ Hid (aS w [(134, #[I r, I c]), (31, #[I 0, I 0, .slice none 0 0]), (31, #[I r, I c, .slice A2 l2.length c2])] wr) ∧ Hid (Own wr (w.heap.size + 3) (.slice A2 l2.length c2) l2)) (fun _ kk _ => c - (intOf kk).toNat)
  case atStart => exact ⟨0, b, l, A, cp, by omega, rfl, rfl, Lib.hid ⟨by simp, by simp⟩, N, O⟩
  case round =>
   clear N O x0 x2 t0 t2
   obtain ⟨k, b2, l2, A2, c2, hk, rfl, rfl, E2, N, O⟩ := hrel
   have x0 := N.out.r0.cell
   have x2 := N.out.r2.cell
   have g2 := N.out.r2.free
   have t0 := N.out.r0.lt
   have t2 := N.out.r2.lt
   by_cases hkc : k = c
   · subst hkc
     go_wp2
     go_roundw
     case rel => exact ⟨i + 1, b2, l2, A2, c2, STEP.out.1, by go_num, rfl, Lib.hid ⟨by rw [upto_succ, ← E.out.1]; exact E2.out.1, by rw [Ir, ← E.out.2]; exact E2.out.2⟩, N, O⟩
     case measure =>
      have h := STEP.out.2
      show r - ((i : Int) + 1).toNat < r - ((i : Int)).toNat
      rw [show ((i : Int) + 1).toNat = i + 1 by omega, show ((i : Int)).toNat = i by omega]
      exact h
   have hlt2 : (k : Int) < c := by omega
   have Ue : Hid (k + 1 ≤ c ∧ c - (k + 1) < c - k) := Lib.hid (by omega)
   have aho : IntKind.i64.wrap ((k : Int) + 1) = (k : Int) + 1 := by have := HC.out; simp [IntKind.wrap, IntKind.bits, IntKind.signed]; omega
   have HK := Lib.hid (show k < c by omega)
   have HL2 : Hid (l2.length ≤ 1000) := Lib.hid (by rw [E2.out.1, List.length_append, List.length_map, List.length_range, HL.out]; have := HI.out; have := HR.out; have := HC.out; have := HK.out; have : i * c ≤ 7 * 8 := Nat.mul_le_mul (by omega) (by omega); omega)
   clear hk hkc
   go_wp2_with fail
   rw [HE.out _ _, Oper.upon_enter]
   refine (HT.out i k _ HI.out HK.out N.out.be).mono ?_
   rintro e w2 ⟨rfl, hb⟩
   replace N := Lib.hid (N.out.below hb)
   replace O := Lib.hid (O.out.below hb)
   clear hb x0 x2 g2 t0 t2
   obtain ⟨y, hy⟩ : ∃ y, q i k = y := ⟨_, rfl⟩
   obtain ⟨z, hz⟩ : ∃ z, o i k = z := ⟨_, rfl⟩
   rw [hy, hz]
   have HY := Lib.hid hy
   have HZ := Lib.hid hz
   clear hy hz
   have x0 := N.out.r0.cell
   have x2 := N.out.r2.cell
   have g2 := N.out.r2.free
   have t0 := N.out.r0.lt
   have t2 := N.out.r2.lt
   have hB : w.heap.size + 3 ≤ w2.heap.size := by omega
   have ob : Hid (∀ A3 c3, (Value.slice A3 (l2.length + 1) c3).ownBlock = (Value.slice A2 l2.length c2).ownBlock ∨ (Value.slice A3 (l2.length + 1) c3).ownBlock = some w2.heap.size → True) := Lib.hid (fun _ _ _ => trivial)
   cases b2
   all_goals
    go_wp2_with (at_builtin
                 refine D9 _ rfl (.tmp 35) (.tmp 37) rfl (w.heap.size + 3) _ l2 y w2.heap.size rfl rfl ?own ?cell ?base ?len ?_
                 case own => exact O.out.alloc _
                 case cell => exact (Row.new w2 22 #[I y]).cell 0
                 case base => (simp; omega)
                 case len => (have := HL2.out; omega)
                 intro A3 c3 w3 hown hg hat
                 have O3 := Lib.hid hown
                 have N3 := Lib.hid ((N.out.alloc (.cells #[I y] 22)).app hg (fun g h => by have := (O.out.row.lt g h).1; simp; omega))
                 have x2 := N3.out.r2.cell
                 have g2 := N3.out.r2.free
                 have t2 := N3.out.r2.lt
                 clear hown hg hat)
    have N4 := Lib.hid (N3.out.put 2 31 _ N3.out.r2 2 (.slice A3 (l2.length + 1) c3))
    have O4 := Lib.hid (O3.out.far (p := ⟨w.heap.size + 1 + 1, 2, none⟩) (by dsimp only; omega) (.slice A3 (l2.length + 1) c3))
    go_roundw
    case rel => exact ⟨k + 1, _, l2 ++ [y], A3, c3, Ue.out.1, by go_num, rfl, Lib.hid ⟨by rw [ND, HY.out, ← List.append_assoc, ← E2.out.1], by rw [Ph, HZ.out, ← Bool.or_assoc, ← E2.out.2]; simp⟩, by simpa using N4, by simpa using O4⟩
    case measure =>
     have h := Ue.out.2
     show c - ((k : Int) + 1).toNat < c - ((k : Int)).toNat
     rw [show ((k : Int) + 1).toNat = k + 1 by omega, show ((k : Int)).toNat = k by omega]
     exact h
end Go.Proofs.Ytnijhjbcjeohhaa.KK

namespace Go.Proofs.Ytnijhjbcjeohhaa.PQ
open Go.RowKit Go.Proofs.af.aA Go.Proofs.af.aN Go.Proofs.af.aP
theorem cu (n : Int) : IntKind.u64.wrap n = n % 18446744073709551616 := by simp [IntKind.wrap, IntKind.bits, IntKind.signed]
theorem wraps_u64 (n : Int) (h₀ : 0 ≤ n) (h₁ : n < 2 ^ 64) : IntKind.u64.wrap n = n := by rw [cu]; omega
theorem JS {n : Int} (h0 : -9223372036854775808 ≤ n) (h1 : n ≤ 9223372036854775807) : wrap64 n = n := by unfold wrap64; omega
theorem UO (x : Int) (h0 : 0 ≤ x) (h1 : x < 18446744073709551616) : Go.bits .and .u64 x 16777215 = x % 16777216 :=
 bits_mask .u64 64 (by decide) wraps_u64 24 (by decide) x h0 h1
theorem Tu (x : Int) (h0 : 0 ≤ x) (h1 : x < 18446744073709551616) : Go.bits .and .u64 x 1 = x % 2 :=
 bits_mask .u64 64 (by decide) wraps_u64 1 (by decide) x h0 h1
theorem abT (x y : Int) (hx₀ : 0 ≤ x) (hx₁ : x < 1099511627776) (hy₀ : 0 ≤ y) (hy₁ : y < 18446744073709551616) (hy : y % 1099511627776 = 0) : Go.bits .or .u64 x y = y + x := by
 have h := bits_join .u64 64 (by decide) wraps_u64 40 y x hy₀ hy hy₁ hx₀ hx₁ (by omega)
 rw [← h]
 show IntKind.u64.wrap _ = IntKind.u64.wrap _
 rw [BitVec.or_comm]
def cl (a : Int) : Int := if a < -70368744177664 then -70368744177664 else if 70368744177663 < a then 70368744177663 else a
def od (a : Int) : Bool := decide (a < -70368744177664 ∨ 70368744177663 < a)
theorem qP (a : Int) : -70368744177664 ≤ cl a := by unfold cl; repeat' split <;> omega
theorem qQ (a : Int) : cl a ≤ 70368744177663 := by unfold cl; repeat' split <;> omega
theorem ql {a : Int} (h0 : -70368744177664 ≤ a) (h1 : a ≤ 70368744177663) : cl a = a := by unfold cl; repeat' split <;> omega
theorem ug {a : Int} (h0 : -70368744177664 ≤ a) (h1 : a ≤ 70368744177663) : od a = false := by unfold od; simp; omega
theorem tC (a : Int) : qH a = cl a := by unfold qH mn mx cl; repeat' split <;> omega
theorem BK (a : Int) : wW a = od a := by
 have e : (mn (mx a (-70368744177664)) 70368744177663) = cl a := tC a
 unfold wW
 rw [e, Bool.eq_iff_iff, bne_iff_ne]
 unfold cl od
 simp only [decide_eq_true_eq]
 repeat' split <;> omega
theorem o_ (a : Int) : bH.f a = some (cl a, od a) := by
 have h1 := tC a
 have h2 := BK a
 unfold qH at h1
 unfold wW at h2
 unfold bH.f
 rw [h2, h1]
theorem wY (a b : Int) : bg.f a b = some (cl a, cl b, od a || od b) := by
 unfold bg.f
 rw [o_, o_]
 simp only [Option.bind_some]
 cases od a <;> simp
def sz (a : Int) : Int := if a < 0 then -a else a
theorem J7 (a : Int) : 0 ≤ sz a := by unfold sz; split <;> omega
theorem I8 (a : Int) : sz (cl a) ≤ 70368744177664 := by have := qP a; have := qQ a; unfold sz; split <;> omega
theorem wE (a : Int) (h0 : -70368744177664 ≤ a) (h1 : a ≤ 70368744177664) : aV.f a = some (sz a) := by
 unfold aV.f sz
 split
 · rw [JS (by omega) (by omega), cu, Int.emod_eq_of_lt (by omega) (by omega)]
 · rw [cu, Int.emod_eq_of_lt (by omega) (by omega)]
def lw (X : Int) : Int :=
 let l := (X / 16777216) % 18446744073709551616
 if X % 16777216 > 8388608 then (l + 1) % 18446744073709551616 else if X % 16777216 = 8388608 then (if l % 2 = 1 then (l + 1) % 18446744073709551616 else l) else l
def sg (h l : Int) (s : Bool) : Int × Bool :=
 if h = 0 then (if l > 70368744177664 then (cl (if s = true then -70368744177664 else 70368744177664), true) else (cl (if s = true then -l else l), od (if s = true then -l else l))) else (cl (if s = true then -70368744177664 else 70368744177664), true)
theorem yJ (h l : Int) (s : Bool) (hl : 0 ≤ l) : aO.f h l s = some (sg h l s) := by
 unfold aO.f sg
 have e1 : oN s 70368744177664 = if s = true then -70368744177664 else 70368744177664 := by unfold oN; cases s <;> simp [wrap64]
 rw [tC, e1]
 split
 · split
   · rfl
   · have e2 : oN s (wrap64 l) = if s = true then -l else l := by
      rw [JS (by omega) (by omega)]
      unfold oN
      cases s <;> simp
      rw [JS (by omega) (by omega)]
     rw [e2, tC, BK]
 · rfl
def flag (o : Bool) (p : Int × Bool) : Int × Bool := (p.1, o || p.2)
theorem Bv (o : Bool) (p : Int × Bool) : (if o = true then (some (p.1, true)) else (some (p.1, p.2))) = some (flag o p) := by cases o <;> simp [flag]
theorem Tt (a b : Int) : qc.f a b = some (flag (od a || od b) (sg (sz (cl a) * sz (cl b) / 309485009821345068724781056) (lw (sz (cl a) * sz (cl b))) ((decide (cl a < 0)) != (decide (cl b < 0))))) := by
 have ha := I8 a
 have hb := I8 b
 have ha0 := J7 (cl a)
 have hb0 := J7 (cl b)
 have hX0 : 0 ≤ sz (cl a) * sz (cl b) := Int.mul_nonneg ha0 hb0
 have hX1 : sz (cl a) * sz (cl b) ≤ 70368744177664 * 70368744177664 := Int.mul_le_mul ha hb hb0 (by omega)
 unfold qc.f
 rw [wY]
 simp only [Option.bind_some]
 have c1 := qP a
 have c2 := qQ a
 have c3 := qP b
 have c4 := qQ b
 rw [wE _ (by omega) (by omega), wE _ (by omega) (by omega)]
 simp only [Option.bind_some]
 unfold bits_Mul64.f
 rw [if_pos ⟨ha0, by omega, hb0, by omega⟩]
 simp only [Option.bind_some]
 generalize ((decide (cl a < 0)) != (decide (cl b < 0))) = s
 generalize (od a || od b) = o
 generalize sz (cl a) * sz (cl b) = X at *
 rw [UO _ (by omega) (by omega), cu (X / _ * _)]
 have e1 : Go.bits .or .u64 (X % 18446744073709551616 / 16777216) (X / 18446744073709551616 * 1099511627776 % 18446744073709551616) = (X / 16777216) % 18446744073709551616 := by
  rw [abT _ _ (by omega) (by omega) (by omega) (by omega) (by omega)]
  omega
 rw [e1, Tu _ (by omega) (by omega), cu]
 have e2 : X % 18446744073709551616 % 16777216 = X % 16777216 := by omega
 have e3 : X / 18446744073709551616 / 16777216 = X / 309485009821345068724781056 := by omega
 rw [e2, e3]
 have k0 : 0 ≤ lw X := by unfold lw; simp only []; repeat' split <;> omega
 rw [show (some (flag o (sg (X / 309485009821345068724781056) (lw X) s))) = (aO.f (X / 309485009821345068724781056) (lw X) s).bind fun bt => (if o = true then (some (bt.1, true)) else (some (bt.1, bt.2))) from by
  rw [yJ _ _ _ k0]; simp only [Option.bind_some]; rw [Bv]]
 unfold lw
 simp only []
 split
 · rfl
 · split
   · split <;> rfl
   · rfl
end Go.Proofs.Ytnijhjbcjeohhaa.PQ

namespace Go.Proofs.Ytnijhjbcjeohhaa.PQ
open Go.RowKit Go.Proofs.af.aA Go.Proofs.af.aN Go.Proofs.af.aP
theorem mask32 (x : Int) (h0 : 0 ≤ x) (h1 : x < 18446744073709551616) : Go.bits .and .u64 x 4294967295 = x % 4294967296 :=
 bits_mask .u64 64 (by decide) wraps_u64 32 (by decide) x h0 h1
section
variable {n1 n0 D U u q r : Int}
theorem FI (hD : D = n1 * 4294967296 + n0) (hp : 0 < D) (e : q * n1 + r = U) (h : q * n0 ≤ 4294967296 * r + u) : q ≤ (U * 4294967296 + u) / D := by
 refine Int.le_ediv_of_mul_le hp ?_
 rw [hD, Int.mul_add, ← Int.mul_assoc]
 omega
theorem tq (hp : 0 < D) (hU : U < D) (hu : u < 4294967296) : (U * 4294967296 + u) / D < 4294967296 := by
 refine Int.ediv_lt_of_lt_mul hp ?_
 omega
theorem BH (hD : D = n1 * 4294967296 + n0) (hp : 0 < D) (e : q * n1 + r = U) (h : 4294967296 * r + u < q * n0) : (U * 4294967296 + u) / D < q := by
 refine Int.ediv_lt_of_lt_mul hp ?_
 rw [hD, Int.mul_add, ← Int.mul_assoc]
 omega
theorem BI (hD : D = n1 * 4294967296 + n0) (hp : 0 < D) (h0 : 0 ≤ n0) (h0' : n0 < 4294967296) (hu0 : 0 ≤ u) (e : q * n1 + r = U) (hq0 : 1 ≤ q) (hq : q ≤ 4294967297) (h : 4294967296 ≤ r + n1) :
 q - 1 ≤ (U * 4294967296 + u) / D := by
 refine Int.le_ediv_of_mul_le hp ?_
 have h1 : (q - 1) * n0 ≤ 4294967296 * 4294967295 := Int.mul_le_mul (by omega) (by omega) h0 (by omega)
 rw [hD, Int.mul_add, ← Int.mul_assoc, Int.sub_mul q 1 n1]
 omega
theorem xB (hD : D = n1 * 4294967296 + n0) (h1 : 2147483648 ≤ n1) (h0 : 0 ≤ n0) (h0' : n0 < 4294967296) (QZ : 0 ≤ U) (hU : U < D) (hu0 : 0 ≤ u) (hu : u < 4294967296) :
 (U * 4294967296 + u) / D ≤ U / n1 ∧ U / n1 ≤ 4294967297 := by
 constructor
 · refine Int.le_ediv_of_mul_le (by omega) ?_
   have hp : 0 < D := by omega
   have h := Int.ediv_mul_le (U * 4294967296 + u) (b := D) (by omega)
   have hq0 : 0 ≤ (U * 4294967296 + u) / D := Int.ediv_nonneg (by omega) (by omega)
   generalize (U * 4294967296 + u) / D = Q at *
   have hn : 0 ≤ Q * n0 := Int.mul_nonneg hq0 h0
   rw [hD, Int.mul_add, ← Int.mul_assoc] at h
   omega
 · have := Int.ediv_lt_of_lt_mul (a := U) (b := 4294967298) (c := n1) (by omega) (by omega)
   omega
end
theorem Qj {a b : Int} (ha0 : 0 ≤ a) (ha : a < 4294967296) (hb0 : 0 ≤ b) (hb : b < 4294967296) : 0 ≤ a * b ∧ a * b < 18446744073709551616 := by
 have h1 : a * b ≤ 4294967295 * 4294967295 := Int.mul_le_mul (by omega) (by omega) hb0 (by omega)
 have h2 := Int.mul_nonneg ha0 hb0
 omega
theorem XR {n1 n0 D U u : Int} (hD : D = n1 * 4294967296 + n0) (h1 : 2147483648 ≤ n1) (h1' : n1 < 4294967296) (h0 : 0 ≤ n0) (h0' : n0 < 4294967296) (QZ : 0 ≤ U) (hU : U < D) (hu0 : 0 ≤ u) (hu : u < 4294967296) (x8 x14 : Int) (res : Int × Int)
 (hres : Ev (fun k => aJ.j2 k D x8 n1 n0 U u x14 ((U * 4294967296 + u) / D)) res) :
 ∀ (d : Nat) (q r : Int), q * n1 + r = U → 0 ≤ r → r < 4294967296 → (U * 4294967296 + u) / D ≤ q → q ≤ 4294967297 → q - (U * 4294967296 + u) / D = d → Ev (fun k => aJ.l0 k D x8 n1 n0 U u x14 q r) res := by
 have hp : 0 < D := by omega
 have hQ0 : 0 ≤ (U * 4294967296 + u) / D := Int.ediv_nonneg (by omega) (by omega)
 have hQt := tq hp hU hu
 have hmore : ∀ (q r : Int), q * n1 + r = U → 0 ≤ r → r < 4294967296 → (U * 4294967296 + u) / D < q → q ≤ 4294967297 →
  (∀ r', (q - 1) * n1 + r' = U → 0 ≤ r' → r' < 4294967296 → Ev (fun k => aJ.l0 k D x8 n1 n0 U u x14 (q - 1) r') res) → Ev (fun k => aJ.j1 k D x8 n1 n0 U u x14 q r true) res := by
  intro q r e hr0 hr hlt hq ih
  have w1 : IntKind.u64.wrap (r + n1) = r + n1 := wraps_u64 _ (by omega) (by omega)
  have w2 : IntKind.u64.wrap (q - 1) = q - 1 := wraps_u64 _ (by omega) (by omega)
  by_cases hb : r + n1 ≥ 4294967296
  · refine Ev.step (f := fun k => aJ.j2 k D x8 n1 n0 U u x14 (q - 1)) ?_ ?_
    · intro k
      simp only [aJ.j1, if_true]
      rw [w1, if_pos hb, w2]
    · have := BI hD hp h0 h0' hu0 e (by omega) hq hb
      rw [show q - 1 = (U * 4294967296 + u) / D by omega]
      exact hres
  · refine Ev.step (f := fun k => aJ.l0 k D x8 n1 n0 U u x14 (q - 1) (r + n1)) ?_ (ih (r + n1) (by rw [Int.sub_mul]; omega) (by omega) (by omega))
    intro k
    simp only [aJ.j1, if_true]
    rw [w1, if_neg hb, w2]
 intro d
 induction d with
 | zero =>
   intro q r e hr0 hr hle hq hd
   have hq' : q = (U * 4294967296 + u) / D := by omega
   have hq4 : q < 4294967296 := by omega
   have hn : ¬ (4294967296 * r + u < q * n0) := fun h => by
    have := BH hD hp e h
    omega
   have hm := Qj (a := q) (b := n0) (by omega) hq4 h0 h0'
   refine Ev.step (f := fun k => aJ.j1 k D x8 n1 n0 U u x14 q r false) ?_ (Ev.step (f := fun k => aJ.j2 k D x8 n1 n0 U u x14 q) ?_ (by rw [hq']; exact hres))
   · intro k
     simp only [aJ.l0]
     rw [if_neg (by omega), wraps_u64 (q * n0) (by omega) (by omega), wraps_u64 (4294967296 * r) (by omega) (by omega), wraps_u64 (4294967296 * r + u) (by omega) (by omega), decide_eq_false (by omega)]
   · intro k
     simp [aJ.j1]
 | succ d ih =>
   intro q r e hr0 hr hle hq hd
   have hlt : (U * 4294967296 + u) / D < q := by omega
   have hy : q < 4294967296 → 4294967296 * r + u < q * n0 := fun _ => by
    rcases Int.lt_or_le (4294967296 * r + u) (q * n0) with h | h
    · exact h
    · have := FI hD hp e h
      omega
   refine Ev.step (f := fun k => aJ.j1 k D x8 n1 n0 U u x14 q r true) ?_ (hmore q r e hr0 hr hlt hq fun r' e' a b => ih (q - 1) r' e' a b (by omega) (by omega) (by omega))
   intro k
   simp only [aJ.l0]
   by_cases hq4 : q ≥ 4294967296
   · rw [if_pos hq4]
   · have hm := Qj (a := q) (b := n0) (by omega) (by omega) h0 h0'
     have := hy (by omega)
     rw [if_neg hq4, wraps_u64 (q * n0) (by omega) (by omega), wraps_u64 (4294967296 * r) (by omega) (by omega), wraps_u64 (4294967296 * r + u) (by omega) (by omega), decide_eq_true (by omega)]
theorem XQ {n1 n0 D U u : Int} (hD : D = n1 * 4294967296 + n0) (h1 : 2147483648 ≤ n1) (h1' : n1 < 4294967296) (h0 : 0 ≤ n0) (h0' : n0 < 4294967296) (QZ : 0 ≤ U) (hU : U < D) (hu0 : 0 ≤ u) (hu : u < 4294967296) (x8 x15 : Int) (h8 : 0 ≤ x8) :
 ∀ (d : Nat) (q r : Int), q * n1 + r = U → 0 ≤ r → r < 4294967296 → (U * 4294967296 + u) / D ≤ q → q ≤ 4294967297 → q - (U * 4294967296 + u) / D = d →
   Ev (fun k => aJ.l1 k D x8 n1 n0 u x15 r U q) (IntKind.u64.wrap (IntKind.u64.wrap (x15 * 4294967296) + (U * 4294967296 + u) / D),
    shr .u64 (IntKind.u64.wrap (IntKind.u64.wrap (IntKind.u64.wrap (U * 4294967296) + u) - IntKind.u64.wrap ((U * 4294967296 + u) / D * D))) x8) := by
 have hp : 0 < D := by omega
 have hQ0 : 0 ≤ (U * 4294967296 + u) / D := Int.ediv_nonneg (by omega) (by omega)
 have hQt := tq hp hU hu
 have hmore : ∀ (res : Int × Int), res = (IntKind.u64.wrap (IntKind.u64.wrap (x15 * 4294967296) + (U * 4294967296 + u) / D), shr .u64 (IntKind.u64.wrap (IntKind.u64.wrap (IntKind.u64.wrap (U * 4294967296) + u) - IntKind.u64.wrap ((U * 4294967296 + u) / D * D))) x8) →
  ∀ (q r : Int), q * n1 + r = U → 0 ≤ r → r < 4294967296 → (U * 4294967296 + u) / D < q → q ≤ 4294967297 →
  (∀ r', (q - 1) * n1 + r' = U → 0 ≤ r' → r' < 4294967296 → Ev (fun k => aJ.l1 k D x8 n1 n0 u x15 r' U (q - 1)) res) → Ev (fun k => aJ.j4 k D x8 n1 n0 u x15 r U q true) res := by
  intro res hres q r e hr0 hr hlt hq ih
  have w1 : IntKind.u64.wrap (r + n1) = r + n1 := wraps_u64 _ (by omega) (by omega)
  have w2 : IntKind.u64.wrap (q - 1) = q - 1 := wraps_u64 _ (by omega) (by omega)
  by_cases hb : r + n1 ≥ 4294967296
  · refine Ev.step (f := fun _ => some res) ?_ (Ev.now _)
    intro k
    have := BI hD hp h0 h0' hu0 e (by omega) hq hb
    have hqe : q - 1 = (U * 4294967296 + u) / D := by omega
    simp only [aJ.j4, if_true]
    rw [w1, if_pos hb, w2, if_pos h8, hqe, hres]
  · refine Ev.step (f := fun k => aJ.l1 k D x8 n1 n0 u x15 (r + n1) U (q - 1)) ?_ (ih (r + n1) (by rw [Int.sub_mul]; omega) (by omega) (by omega))
    intro k
    simp only [aJ.j4, if_true]
    rw [w1, if_neg hb, w2]
 intro d
 induction d with
 | zero =>
   intro q r e hr0 hr hle hq hd
   have hq' : q = (U * 4294967296 + u) / D := by omega
   have hq4 : q < 4294967296 := by omega
   have hn : ¬ (4294967296 * r + u < q * n0) := fun h => by
    have := BH hD hp e h
    omega
   have hm := Qj (a := q) (b := n0) (by omega) hq4 h0 h0'
   rw [← hq']
   refine Ev.step (f := fun k => aJ.j4 k D x8 n1 n0 u x15 r U q false) ?_ (Ev.step (f := fun _ => some (_, _)) ?_ (Ev.now _))
   · intro k
     simp only [aJ.l1]
     rw [if_neg (by omega), wraps_u64 (q * n0) (by omega) (by omega), wraps_u64 (4294967296 * r) (by omega) (by omega), wraps_u64 (4294967296 * r + u) (by omega) (by omega), decide_eq_false (by omega)]
   · intro k
     simp only [aJ.j4, Bool.false_eq_true, if_false]
     rw [if_pos h8]
 | succ d ih =>
   intro q r e hr0 hr hle hq hd
   have hlt : (U * 4294967296 + u) / D < q := by omega
   have hy : q < 4294967296 → 4294967296 * r + u < q * n0 := fun _ => by
    rcases Int.lt_or_le (4294967296 * r + u) (q * n0) with h | h
    · exact h
    · have := FI hD hp e h
      omega
   refine Ev.step (f := fun k => aJ.j4 k D x8 n1 n0 u x15 r U q true) ?_ (hmore _ rfl q r e hr0 hr hlt hq fun r' e' a b => ih (q - 1) r' e' a b (by omega) (by omega) (by omega))
   intro k
   simp only [aJ.l1]
   by_cases hq4 : q ≥ 4294967296
   · rw [if_pos hq4]
   · have hm := Qj (a := q) (b := n0) (by omega) (by omega) h0 h0'
     have := hy (by omega)
     rw [if_neg hq4, wraps_u64 (q * n0) (by omega) (by omega), wraps_u64 (4294967296 * r) (by omega) (by omega), wraps_u64 (4294967296 * r + u) (by omega) (by omega), decide_eq_true (by omega)]
end Go.Proofs.Ytnijhjbcjeohhaa.PQ

namespace Go.Proofs.Ytnijhjbcjeohhaa.PQ
open Go.RowKit Go.Proofs.af.aA Go.Proofs.af.aN Go.Proofs.af.aP
theorem xw (f : Nat) : Lib.bitLenAux f 0 = 0 := by cases f <;> simp [Lib.bitLenAux]
theorem uk : ∀ (f x : Nat), x < 2 ^ f → x < 2 ^ Lib.bitLenAux f x ∧ (x ≠ 0 → 2 ^ Lib.bitLenAux f x ≤ 2 * x)
 | 0, x, h => by simp at h; subst h; simp [Lib.bitLenAux]
 | f + 1, x, h => by
   by_cases hx : x = 0
   · subst hx
     rw [xw]
     simp
   · obtain ⟨h1, h2⟩ := uk f (x / 2) (by rw [Nat.pow_succ] at h; omega)
     simp only [Lib.bitLenAux, if_neg hx]
     rw [Nat.pow_add]
     generalize hA : 2 ^ Lib.bitLenAux f (x / 2) = A at *
     refine ⟨by omega, fun _ => ?_⟩
     by_cases h0 : x / 2 = 0
     · have : x = 1 := by omega
       subst this
       rw [h0, xw] at hA
       simp at hA
       omega
     · have := h2 h0
       omega
theorem u_ (n : Nat) : ((2 ^ n : Nat) : Int) = (2 : Int) ^ n := by simp
theorem UK (y : Int) (h0 : 0 < y) (h1 : y < 18446744073709551616) :
 ∃ s : Nat, s ≤ 63 ∧ bits_LeadingZeros64.f y = some (s : Int) ∧ 9223372036854775808 ≤ y * 2 ^ s ∧ y * 2 ^ s < 18446744073709551616 := by
 obtain ⟨n, rfl⟩ := Int.eq_ofNat_of_zero_le (Int.le_of_lt h0)
 have hb := uk 64 n (by omega)
 have hle : Lib.bitLen n ≤ 64 := Lib.bitLen_le n 64 (by decide) (by omega)
 have hn0 : n ≠ 0 := by omega
 have hb2 := hb.2 hn0
 have hb1 := hb.1
 change n < 2 ^ Lib.bitLen n at hb1
 change 2 ^ Lib.bitLen n ≤ 2 * n at hb2
 have hpos : 1 ≤ Lib.bitLen n := by
  rcases Nat.eq_zero_or_pos (Lib.bitLen n) with h | h
  · rw [h] at hb1
    omega
  · exact h
 have hp : 2 ^ Lib.bitLen n * 2 ^ (64 - Lib.bitLen n) = 18446744073709551616 := by
  rw [← Nat.pow_add, show Lib.bitLen n + (64 - Lib.bitLen n) = 64 by omega]
 have hP : 0 < 2 ^ (64 - Lib.bitLen n) := Nat.two_pow_pos _
 have e1 := Nat.mul_le_mul_right (2 ^ (64 - Lib.bitLen n)) hb2
 have e2 := Nat.mul_lt_mul_of_pos_right hb1 hP
 rw [Nat.mul_assoc] at e1
 refine ⟨64 - Lib.bitLen n, by omega, ?_, ?_, ?_⟩
 · unfold bits_LeadingZeros64.f
   rw [if_pos ⟨by omega, by omega⟩]
   simp
   omega
 · rw [← u_, ← Int.natCast_mul]
   omega
 · rw [← u_, ← Int.natCast_mul]
   omega
theorem LM (hi lo y : Int) (h0 : 0 ≤ hi) (h1 : hi < y) (hy : y < 18446744073709551616) (hl0 : 0 ≤ lo) (hl1 : lo < 18446744073709551616) (hne : hi ≠ 0) :
 Ev (fun k => aJ.f k hi lo y) ((hi * 18446744073709551616 + lo) / y, (hi * 18446744073709551616 + lo) % y) := by
 obtain ⟨s, hs, hlz, hD1, hD2⟩ := UK y (by omega) hy
 have hP : (0 : Int) < 2 ^ s := by rw [← u_]; have := Nat.two_pow_pos s; omega
 have hR : (0 : Int) < 2 ^ (64 - s) := by rw [← u_]; have := Nat.two_pow_pos (64 - s); omega
 have hPR : (2 : Int) ^ (64 - s) * 2 ^ s = 18446744073709551616 := by
  rw [← Int.pow_add, show 64 - s + s = 64 by omega]; rfl
 have hS : shl .u64 y s = y * 2 ^ s := by
  unfold shl
  rw [show min (s : Int).toNat IntKind.u64.bits = s by simp [IntKind.bits]; omega, cu, Int.emod_eq_of_lt (by omega) (by omega)]
 have hhi : hi * 2 ^ s + 2 ^ s ≤ y * 2 ^ s := by
  have := Int.mul_le_mul_of_nonneg_right (show hi + 1 ≤ y by omega) (Int.le_of_lt hP)
  rw [Int.add_mul] at this
  omega
 have hhi0 : 0 ≤ hi * 2 ^ s := Int.mul_nonneg h0 (Int.le_of_lt hP)
 have hS2 : shl .u64 hi s = hi * 2 ^ s := by
  unfold shl
  rw [show min (s : Int).toNat IntKind.u64.bits = s by simp [IntKind.bits]; omega, cu, Int.emod_eq_of_lt (by omega) (by omega)]
 have hT : IntKind.u64.wrap (64 - (s : Int)) = ((64 - s : Nat) : Int) := by rw [cu]; omega
 have hS3 : shr .u64 lo ((64 - s : Nat) : Int) = lo / 2 ^ (64 - s) := by
  unfold shr
  rw [show min ((64 - s : Nat) : Int).toNat IntKind.u64.bits = 64 - s by simp [IntKind.bits]]
 have ha := Int.mul_ediv_add_emod lo (2 ^ (64 - s))
 have hb0 := Int.emod_nonneg lo (Int.ne_of_gt hR)
 have hb1 := Int.emod_lt_of_pos lo hR
 have ha0 : 0 ≤ lo / 2 ^ (64 - s) := Int.ediv_nonneg hl0 (Int.le_of_lt hR)
 have ha1 : lo / 2 ^ (64 - s) < 2 ^ s := Int.ediv_lt_of_lt_mul hR (by rw [Int.mul_comm, hPR]; exact hl1)
 have hL : lo * 2 ^ s = lo / 2 ^ (64 - s) * 18446744073709551616 + lo % 2 ^ (64 - s) * 2 ^ s := by
  have e : (2 ^ (64 - s) * (lo / 2 ^ (64 - s)) + lo % 2 ^ (64 - s)) * 2 ^ s = lo * 2 ^ s := by rw [ha]
  rw [Int.add_mul, Int.mul_comm (2 ^ (64 - s)) (lo / _), Int.mul_assoc, hPR] at e
  exact e.symm
 have aht : 0 ≤ lo % 2 ^ (64 - s) * 2 ^ s := Int.mul_nonneg hb0 (Int.le_of_lt hP)
 have ahs : lo % 2 ^ (64 - s) * 2 ^ s < 18446744073709551616 := by
  rw [← hPR]
  exact Int.mul_lt_mul_of_pos_right hb1 hP
 have hS4 : shl .u64 lo s = lo % 2 ^ (64 - s) * 2 ^ s := by
  unfold shl
  rw [show min (s : Int).toNat IntKind.u64.bits = s by simp [IntKind.bits]; omega, cu, hL]
  omega
 have hor : Go.bits .or .u64 (hi * 2 ^ s) (lo / 2 ^ (64 - s)) = hi * 2 ^ s + lo / 2 ^ (64 - s) := by
  refine bits_join .u64 64 (by decide) wraps_u64 s _ _ hhi0 (Int.mul_emod_left _ _) (by omega) ha0 ha1 (by omega)
 have hN : (hi * 18446744073709551616 + lo) * 2 ^ s = (hi * 2 ^ s + lo / 2 ^ (64 - s)) * 18446744073709551616 + lo % 2 ^ (64 - s) * 2 ^ s := by
  rw [Int.add_mul, hL, Int.mul_assoc, Int.mul_comm 18446744073709551616 (2 ^ s), ← Int.mul_assoc, Int.add_mul]
  omega
 have hz : (y * 2 ^ s) / 4294967296 ≠ 0 := by omega
 have hres : ∀ D U L : Int, D = y * 2 ^ s → U = hi * 2 ^ s + lo / 2 ^ (64 - s) → L = lo % 2 ^ (64 - s) * 2 ^ s →
  Ev (fun k => aJ.l0 k D s (D / 4294967296) (D % 4294967296) U (L / 4294967296) (L % 4294967296) (U / (D / 4294967296)) (U - U / (D / 4294967296) * (D / 4294967296)))
   ((hi * 18446744073709551616 + lo) / y, (hi * 18446744073709551616 + lo) % y) := by
  intro D U L eD eU eL
  rw [← eU, ← eL] at hN
  have QZ : 0 ≤ U := by omega
  have hUD : U < D := by omega
  have hD : D = D / 4294967296 * 4294967296 + D % 4294967296 := by omega
  have hDB : D < 18446744073709551616 := by omega
  have Xb : 0 < D := by omega
  have hr0 := Int.emod_nonneg U (show D / 4294967296 ≠ 0 by omega)
  have hr1 := Int.emod_lt_of_pos U (show 0 < D / 4294967296 by omega)
  have hre := Int.ediv_mul_add_emod U (D / 4294967296)
  have hf := xB (u := L / 4294967296) hD (by omega) (by omega) (by omega) QZ hUD (by omega) (by omega)
  refine XR hD (by omega) (by omega) (by omega) (by omega) QZ hUD (by omega) (by omega) s (L % 4294967296) _ ?_ ((U / (D / 4294967296) - (U * 4294967296 + L / 4294967296) / D).toNat) _ _ (by omega) (by omega) (by omega) hf.1 hf.2 (by omega)
  have hm1 := Int.ediv_mul_add_emod (U * 4294967296 + L / 4294967296) D
  have hm2 := Int.emod_nonneg (U * 4294967296 + L / 4294967296) (show D ≠ 0 by omega)
  have hm3 := Int.emod_lt_of_pos (U * 4294967296 + L / 4294967296) Xb
  have hq1 := tq Xb hUD (show L / 4294967296 < 4294967296 by omega)
  have hq0 : 0 ≤ (U * 4294967296 + L / 4294967296) / D := Int.ediv_nonneg (by omega) (by omega)
  generalize (U * 4294967296 + L / 4294967296) / D = Q1 at *
  generalize hR1 : (U * 4294967296 + L / 4294967296) % D = R1 at *
  have hw : IntKind.u64.wrap (IntKind.u64.wrap (IntKind.u64.wrap (U * 4294967296) + L / 4294967296) - IntKind.u64.wrap (Q1 * D)) = R1 := by
   rw [cu, cu, cu, cu]
   omega
  have ahy := Int.emod_nonneg R1 (show D / 4294967296 ≠ 0 by omega)
  have ahx := Int.emod_lt_of_pos R1 (show 0 < D / 4294967296 by omega)
  have ahw := Int.ediv_mul_add_emod R1 (D / 4294967296)
  have hd1 : IntKind.u64.wrap (Int.tdiv R1 (D / 4294967296)) = R1 / (D / 4294967296) := by
   rw [Int.tdiv_eq_ediv_of_nonneg hm2]
   refine wraps_u64 _ (Int.ediv_nonneg hm2 (by omega)) ?_
   have := Int.ediv_le_self (a := R1) (D / 4294967296) hm2
   omega
  have hf2 := xB (u := L % 4294967296) hD (by omega) (by omega) (by omega) hm2 hm3 (by omega) (by omega)
  refine Ev.step (f := fun k => aJ.l1 k D s (D / 4294967296) (D % 4294967296) (L % 4294967296) Q1 (R1 - R1 / (D / 4294967296) * (D / 4294967296)) R1 (R1 / (D / 4294967296))) ?_ ?_
  · intro k
    simp only [aJ.j2]
    rw [if_neg (by omega), hw, hd1]
    congr 1
    have hmul : R1 / (D / 4294967296) * (D / 4294967296) ≤ R1 := by omega
    have aeO : 0 ≤ R1 / (D / 4294967296) * (D / 4294967296) := Int.mul_nonneg (Int.ediv_nonneg hm2 (by omega)) (by omega)
    generalize R1 / (D / 4294967296) * (D / 4294967296) = Z at *
    rw [cu, cu]
    omega
  · have hl := XQ hD (by omega) (by omega) (by omega) (by omega) hm2 hm3 (show 0 ≤ L % 4294967296 by omega) (by omega) s Q1 (by omega) ((R1 / (D / 4294967296) - (R1 * 4294967296 + L % 4294967296) / D).toNat) (R1 / (D / 4294967296)) (R1 - R1 / (D / 4294967296) * (D / 4294967296)) (by omega) (by omega) (by omega) hf2.1 hf2.2 (by omega)
    have hn1 := Int.ediv_mul_add_emod (R1 * 4294967296 + L % 4294967296) D
    have hn2 := Int.emod_nonneg (R1 * 4294967296 + L % 4294967296) (show D ≠ 0 by omega)
    have hn3 := Int.emod_lt_of_pos (R1 * 4294967296 + L % 4294967296) Xb
    have hp1 := tq Xb hm3 (show L % 4294967296 < 4294967296 by omega)
    have hp0 : 0 ≤ (R1 * 4294967296 + L % 4294967296) / D := Int.ediv_nonneg (by omega) (by omega)
    generalize (R1 * 4294967296 + L % 4294967296) / D = Q0 at *
    generalize (R1 * 4294967296 + L % 4294967296) % D = R0 at *
    have hw2 : IntKind.u64.wrap (IntKind.u64.wrap (IntKind.u64.wrap (R1 * 4294967296) + L % 4294967296) - IntKind.u64.wrap (Q0 * D)) = R0 := by
     rw [cu, cu, cu, cu]
     omega
    have hw3 : IntKind.u64.wrap (IntKind.u64.wrap (Q1 * 4294967296) + Q0) = Q1 * 4294967296 + Q0 := by
     rw [cu, cu]
     omega
    rw [hw2, hw3] at hl
    have hsr : shr .u64 R0 s = R0 / 2 ^ s := by
     unfold shr
     rw [show min (s : Int).toNat IntKind.u64.bits = s by simp [IntKind.bits]; omega]
    rw [hsr] at hl
    have hfin : (hi * 18446744073709551616 + lo) * 2 ^ s = (Q1 * 4294967296 + Q0) * D + R0 := by
     have e : (Q1 * 4294967296 + Q0) * D = Q1 * D * 4294967296 + Q0 * D := by
      rw [Int.add_mul, Int.mul_assoc Q1, Int.mul_comm 4294967296 D, ← Int.mul_assoc]
     rw [hN, e]
     omega
    have hdm := Int.ediv_mul_add_emod (hi * 18446744073709551616 + lo) y
    have acC := Int.emod_nonneg (hi * 18446744073709551616 + lo) (show y ≠ 0 by omega)
    have acB := Int.emod_lt_of_pos (hi * 18446744073709551616 + lo) (show 0 < y by omega)
    generalize hi * 18446744073709551616 + lo = N at *
    have e1 : (N / y) * D + (N % y) * 2 ^ s = (Q1 * 4294967296 + Q0) * D + R0 := by
     rw [← hfin, eD, ← Int.mul_assoc, ← Int.add_mul, hdm]
    have hx0 : 0 ≤ (N % y) * 2 ^ s := Int.mul_nonneg acC (Int.le_of_lt hP)
    have hx1 : (N % y) * 2 ^ s < D := by rw [eD]; exact Int.mul_lt_mul_of_pos_right acB hP
    have f1 : ((N / y) * D + (N % y) * 2 ^ s) / D = N / y := by
     rw [Int.add_comm, Int.add_mul_ediv_right _ _ (Int.ne_of_gt Xb), Int.ediv_eq_zero_of_lt hx0 hx1, Int.zero_add]
    have f2 : ((Q1 * 4294967296 + Q0) * D + R0) / D = Q1 * 4294967296 + Q0 := by
     rw [Int.add_comm, Int.add_mul_ediv_right _ _ (Int.ne_of_gt Xb), Int.ediv_eq_zero_of_lt hn2 hn3, Int.zero_add]
    have f3 : N / y = Q1 * 4294967296 + Q0 := by rw [← f1, e1, f2]
    rw [f3] at e1
    have f4 : R0 = (N % y) * 2 ^ s := by omega
    rw [f3, show N % y = R0 / 2 ^ s by rw [f4, Int.mul_ediv_cancel _ (Int.ne_of_gt hP)]]
    exact hl
 have hgo := hres _ _ _ rfl rfl rfl
 refine Ev.congr (f := fun k => aJ.l0 k (y * 2 ^ s) s (y * 2 ^ s / 4294967296) (y * 2 ^ s % 4294967296) (hi * 2 ^ s + lo / 2 ^ (64 - s)) (lo % 2 ^ (64 - s) * 2 ^ s / 4294967296) (lo % 2 ^ (64 - s) * 2 ^ s % 4294967296) ((hi * 2 ^ s + lo / 2 ^ (64 - s)) / (y * 2 ^ s / 4294967296)) (hi * 2 ^ s + lo / 2 ^ (64 - s) - (hi * 2 ^ s + lo / 2 ^ (64 - s)) / (y * 2 ^ s / 4294967296) * (y * 2 ^ s / 4294967296))) ?_ hgo
 intro k
 unfold aJ.f
 rw [if_neg (by omega), if_neg (by omega), if_neg hne, hlz]
 simp only [Option.bind_some]
 have hws : IntKind.u64.wrap (s : Int) = s := by rw [cu]; omega
 rw [hws, if_pos (by omega), hT, if_pos (by omega), hS, if_neg hz, hS2, hS3, hor, hS4]
 generalize eU : hi * 2 ^ s + lo / 2 ^ (64 - s) = U
 generalize eL : lo % 2 ^ (64 - s) * 2 ^ s = L at *
 generalize eD : y * 2 ^ s = D at *
 rw [mask32 _ (by omega) (by omega), mask32 _ (by omega) (by omega)]
 have QZ : 0 ≤ U := by omega
 have hq0 : 0 ≤ U / (D / 4294967296) := Int.ediv_nonneg QZ (by omega)
 have hq1 := Int.ediv_le_self (a := U) (D / 4294967296) QZ
 have hc := Int.ediv_mul_add_emod U (D / 4294967296)
 have hr0 := Int.emod_nonneg U (show D / 4294967296 ≠ 0 by omega)
 have hz0 : 0 ≤ U / (D / 4294967296) * (D / 4294967296) := Int.mul_nonneg hq0 (by omega)
 have hd1 : IntKind.u64.wrap (Int.tdiv U (D / 4294967296)) = U / (D / 4294967296) := by
  rw [Int.tdiv_eq_ediv_of_nonneg QZ]
  exact wraps_u64 _ hq0 (by omega)
 rw [hd1]
 congr 1
 generalize U / (D / 4294967296) * (D / 4294967296) = Z at *
 rw [cu, cu]
 omega
theorem Yr (hi lo y : Int) (h0 : 0 ≤ hi) (h1 : hi < y) (hy : y < 18446744073709551616) (hl0 : 0 ≤ lo) (hl1 : lo < 18446744073709551616) :
 Ev (fun k => aJ.f k hi lo y) ((hi * 18446744073709551616 + lo) / y, (hi * 18446744073709551616 + lo) % y) := by
 by_cases hne : hi = 0
 · refine ⟨0, fun k _ => ?_⟩
   subst hne
   show aJ.f k 0 lo y = _
   unfold aJ.f
   rw [if_neg (by omega), if_neg (by omega), if_pos rfl, Int.zero_mul, Int.zero_add, Int.tdiv_eq_ediv_of_nonneg hl0, Int.tmod_eq_emod_of_nonneg hl0]
   have := Int.ediv_le_self (a := lo) y hl0
   rw [wraps_u64 _ (Int.ediv_nonneg hl0 (by omega)) (by omega)]
 · exact LM hi lo y h0 h1 hy hl0 hl1 hne
end Go.Proofs.Ytnijhjbcjeohhaa.PQ

namespace Go.Proofs.Ytnijhjbcjeohhaa.PQ
open Go.RowKit Go.Proofs.af.aA Go.Proofs.af.aN Go.Proofs.af.aP
theorem Ua (a b : Int) : qg.f a b = some (cl (cl a + cl b), (od a || od b) || od (cl a + cl b)) := by
 have := qP a
 have := qQ a
 have := qP b
 have := qQ b
 unfold qg.f
 rw [wY]
 simp only [Option.bind_some]
 rw [JS (by omega) (by omega), o_]
 simp only [Option.bind_some]
 cases (od a || od b) <;> simp
theorem Ti (a b : Int) : p_.f a b = some (cl (cl a - cl b), (od a || od b) || od (cl a - cl b)) := by
 have := qP a
 have := qQ a
 have := qP b
 have := qQ b
 unfold p_.f
 rw [wY]
 simp only [Option.bind_some]
 rw [JS (by omega) (by omega), o_]
 simp only [Option.bind_some]
 cases (od a || od b) <;> simp
def rn (N y : Int) : Int := if N % y > y - N % y then (N / y + 1) % 18446744073709551616 else if N % y = y - N % y then (if N / y % 2 = 1 then (N / y + 1) % 18446744073709551616 else N / y) else N / y
def xA (a b : Int) : Int × Bool :=
 if cl b = 0 then (if cl a > 0 then (70368744177663, true) else if cl a < 0 then (-70368744177664, true) else (0, true))
 else if sz (cl a) / 1099511627776 ≥ sz (cl b) then ((sg 1 0 ((decide (cl a < 0)) != (decide (cl b < 0)))).1, true)
 else flag (od a || od b) (sg 0 (rn (sz (cl a) * 16777216) (sz (cl b))) ((decide (cl a < 0)) != (decide (cl b < 0))))
theorem TZ (a b : Int) : Ev (fun k => kM.f k a b) (xA a b) := by
 have c1 := qP a
 have c2 := qQ a
 have c3 := qP b
 have c4 := qQ b
 have ha := I8 a
 have hb := I8 b
 have ha0 := J7 (cl a)
 have hb0 := J7 (cl b)
 have hbz : cl b ≠ 0 → 0 < sz (cl b) := fun h => by unfold sz at *; split at hb0 <;> split <;> omega
 by_cases h0 : cl b = 0
 · refine Ev.congr (f := fun _ => some (xA a b)) ?_ (Ev.now _)
   intro k
   unfold kM.f xA
   rw [wY]
   simp only [Option.bind_some]
   rw [if_pos h0, if_pos h0]
   repeat' split
   all_goals rfl
 · have hy := hbz h0
   by_cases h1 : sz (cl a) / 1099511627776 ≥ sz (cl b)
   · refine Ev.congr (f := fun _ => some (xA a b)) ?_ (Ev.now _)
     intro k
     unfold kM.f xA
     rw [wY]
     simp only [Option.bind_some]
     rw [if_neg h0, if_neg h0, wE _ (by omega) (by omega), wE _ (by omega) (by omega)]
     simp only [Option.bind_some]
     rw [if_pos h1, if_pos h1, yJ _ _ _ (by omega)]
     rfl
   · have hdv := Yr (sz (cl a) / 1099511627776) (IntKind.u64.wrap (sz (cl a) * 16777216)) (sz (cl b)) (by omega) (by omega) (by omega) (by rw [cu]; omega) (by rw [cu]; omega)
     have hN : sz (cl a) / 1099511627776 * 18446744073709551616 + IntKind.u64.wrap (sz (cl a) * 16777216) = sz (cl a) * 16777216 := by rw [cu]; omega
     rw [hN] at hdv
     obtain ⟨K, hK⟩ := hdv
     refine ⟨K, fun k hk => ?_⟩
     have hk' := hK k hk
     show kM.f k a b = _
     unfold kM.f xA
     rw [wY]
     simp only [Option.bind_some]
     rw [if_neg h0, if_neg h0, wE _ (by omega) (by omega), wE _ (by omega) (by omega)]
     simp only [Option.bind_some]
     rw [if_neg h1, if_neg h1]
     simp only [] at hk'
     rw [hk']
     simp only [Option.bind_some]
     generalize ((decide (cl a < 0)) != (decide (cl b < 0))) = s
     generalize (od a || od b) = o
     have hq0 : 0 ≤ sz (cl a) * 16777216 / sz (cl b) := Int.ediv_nonneg (by omega) (by omega)
     have hq1 : sz (cl a) * 16777216 / sz (cl b) < 18446744073709551616 := Int.ediv_lt_of_lt_mul hy (by omega)
     have hr0 := Int.emod_nonneg (sz (cl a) * 16777216) (show sz (cl b) ≠ 0 by omega)
     have hr1 := Int.emod_lt_of_pos (sz (cl a) * 16777216) hy
     rw [Tu _ hq0 hq1, wraps_u64 (sz (cl b) - _) (by omega) (by omega), cu]
     have k0 : 0 ≤ rn (sz (cl a) * 16777216) (sz (cl b)) := by unfold rn; repeat' split <;> omega
     rw [show (some (flag o (sg 0 (rn (sz (cl a) * 16777216) (sz (cl b))) s))) = (aO.f 0 (rn (sz (cl a) * 16777216) (sz (cl b))) s).bind fun bt => (if o = true then (some (bt.1, true)) else (some (bt.1, bt.2))) from by
      rw [yJ _ _ _ k0]; simp only [Option.bind_some]; rw [Bv]]
     unfold rn
     split
     · rfl
     · split
       · split <;> rfl
       · rfl
def xE : Nat → Int
 | 0 => 0
 | n + 1 => 2 ^ n
theorem Il (n : Nat) : xE (n + 1) / 2 = xE n := by
 cases n with
 | zero => rfl
 | succ n =>
   show (2 : Int) ^ (n + 1) / 2 = 2 ^ n
   rw [Int.pow_succ]
   omega
theorem AZ (x4 : Bool) (hi lo : Int) (_h0 : 0 ≤ hi) (l0 : 0 ≤ lo) (l1 : lo < 18446744073709551616) : ∀ (n : Nat) (r : Int), n ≤ 36 → 0 ≤ r → r % 2 ^ n = 0 → r + 2 ^ n ≤ 68719476736 →
 r * r ≤ hi * 18446744073709551616 + lo → hi * 18446744073709551616 + lo < (r + 2 ^ n) * (r + 2 ^ n) →
 ∃ R, Ev (fun k => bJ.l0 k x4 hi lo r (xE n)) (R, x4) ∧ 0 ≤ R ∧ R ≤ 68719476735 ∧ R * R ≤ hi * 18446744073709551616 + lo ∧ hi * 18446744073709551616 + lo < (R + 1) * (R + 1) := by
 intro n
 induction n with
 | zero =>
   intro r hn hr hm hb hle hlt
   refine ⟨r, Ev.step (f := fun _ => some (r, x4)) ?_ (Ev.now _), hr, by omega, hle, by simpa using hlt⟩
   intro k
   show bJ.l0 (k + 1) x4 hi lo r 0 = _
   simp only [bJ.l0]
   rw [if_neg (by omega), JS (by omega) (by omega)]
 | succ n ih =>
   intro r hn hr hm hb hle hlt
   have hp : (0 : Int) < 2 ^ n := by rw [← u_]; have := Nat.two_pow_pos n; omega
   have hps : (2 : Int) ^ (n + 1) = 2 * 2 ^ n := by rw [Int.pow_succ]; omega
   have hor : Go.bits .or .u64 r (2 ^ n) = r + 2 ^ n :=
    bits_join .u64 64 (by decide) wraps_u64 (n + 1) r (2 ^ n) hr hm (by omega) (by omega) (by omega) (by omega)
   have hr1 : r % 2 ^ n = 0 := by
    have : r = 2 ^ (n + 1) * (r / 2 ^ (n + 1)) := by have := Int.mul_ediv_add_emod r (2 ^ (n + 1)); omega
    rw [this, hps, Int.mul_assoc, Int.mul_comm 2, Int.mul_assoc]
    exact Int.mul_emod_right _ _
   have hr2 : (r + 2 ^ n) % 2 ^ n = 0 := by rw [Int.add_emod_right]; exact hr1
   have aha : 0 ≤ (r + 2 ^ n) * (r + 2 ^ n) := Int.mul_nonneg (by omega) (by omega)
   have ag_ : (r + 2 ^ n) * (r + 2 ^ n) ≤ 68719476736 * 68719476736 := Int.mul_le_mul (by omega) (by omega) (by omega) (by omega)
   have Yh : bits_Mul64.f (r + 2 ^ n) (r + 2 ^ n) = some ((r + 2 ^ n) * (r + 2 ^ n) / 18446744073709551616, (r + 2 ^ n) * (r + 2 ^ n) % 18446744073709551616) := by
    unfold bits_Mul64.f
    rw [if_pos ⟨by omega, by omega, by omega, by omega⟩]
   have hb2 := Il n
   have hpos : xE (n + 1) > 0 := hp
   by_cases hc : (r + 2 ^ n) * (r + 2 ^ n) ≤ hi * 18446744073709551616 + lo
   · obtain ⟨R, hE, hrest⟩ := ih (r + 2 ^ n) (by omega) (by omega) hr2 (by omega) hc (by rw [Int.add_assoc, show (2 : Int) ^ n + 2 ^ n = 2 ^ (n + 1) by omega]; exact hlt)
     refine ⟨R, Ev.step (f := fun k => bJ.l0 k x4 hi lo (r + 2 ^ n) (xE n)) ?_ hE, hrest⟩
     intro k
     simp only [bJ.l0]
     rw [if_pos hpos, hb2, show xE (n + 1) = 2 ^ n from rfl, hor, Yh]
     simp only [Option.bind_some]
     generalize (r + 2 ^ n) * (r + 2 ^ n) = Z at *
     split
     · rfl
     · rw [if_pos (by omega), if_pos (by omega)]
   · obtain ⟨R, hE, hrest⟩ := ih r (by omega) hr hr1 (by omega) hle (by omega)
     refine ⟨R, Ev.step (f := fun k => bJ.l0 k x4 hi lo r (xE n)) ?_ hE, hrest⟩
     intro k
     simp only [bJ.l0]
     rw [if_pos hpos, hb2, show xE (n + 1) = 2 ^ n from rfl, hor, Yh]
     simp only [Option.bind_some]
     generalize (r + 2 ^ n) * (r + 2 ^ n) = Z at *
     rw [if_neg (by omega)]
     split
     · rw [if_neg (by omega)]
     · rfl
theorem UA (a : Int) (h0 : 0 ≤ a) (h1 : a ≤ 70368744177663) : ∃ R, Ev (fun k => bJ.f k a) (R, false) ∧ 0 ≤ R ∧ R ≤ 68719476735 ∧ R * R ≤ a * 16777216 ∧ a * 16777216 < (R + 1) * (R + 1) := by
 have hN : a / 1099511627776 * 18446744073709551616 + a * 16777216 % 18446744073709551616 = a * 16777216 := by omega
 obtain ⟨R, hE, h⟩ := AZ false (a / 1099511627776) (a * 16777216 % 18446744073709551616) (by omega) (by omega) (by omega) 36 0 (by omega) (by omega) (by decide) (by decide) (by omega)
  (by rw [hN, show ((0 : Int) + 2 ^ 36) * (0 + 2 ^ 36) = 4722366482869645213696 by decide]; omega)
 rw [hN] at h
 refine ⟨R, Ev.congr ?_ hE, h⟩
 intro k
 unfold bJ.f
 rw [o_, ql (by omega) (by omega), ug (by omega) (by omega)]
 simp only [Option.bind_some]
 rw [if_neg (by omega), cu, cu, Int.emod_eq_of_lt (b := 18446744073709551616) h0 (by omega)]
 rfl
end Go.Proofs.Ytnijhjbcjeohhaa.PQ

namespace Go.Proofs.Ytnijhjbcjeohhaa.KK
open Go.RowKit Go.Proofs.af.aA Go.Proofs.af.aN Go.Proofs.af.aP
set_option linter.unusedVariables false
set_option linter.unusedSimpArgs false
def iD (a b : Int) : Int × Bool := PQ.flag (PQ.od a || PQ.od b) (PQ.sg (PQ.sz (PQ.cl a) * PQ.sz (PQ.cl b) / 309485009821345068724781056) (PQ.lw (PQ.sz (PQ.cl a) * PQ.sz (PQ.cl b))) ((decide (PQ.cl a < 0)) != (decide (PQ.cl b < 0))))
def gQ (a b : Int) : Int × Bool := (PQ.cl (PQ.cl a + PQ.cl b), (PQ.od a || PQ.od b) || PQ.od (PQ.cl a + PQ.cl b))
def kC (a b : Int) : Int × Bool := (PQ.cl (PQ.cl a - PQ.cl b), (PQ.od a || PQ.od b) || PQ.od (PQ.cl a - PQ.cl b))
def kS (a b : Int) : Int × Bool := ((PQ.iT.f (wrap64 (a + b)) 1).getD 0, false)
theorem eH (a b : Int) (w : World) : Calls Try.prog 67 #[I a, I b] w fun e w' => e = .returned (.tuple #[I (iD a b).1, .bool (iD a b).2]) ∧ Below w.heap.size w w' := PQ.qc.calls a b _ _ w (PQ.Tt a b)
theorem nP (a b : Int) (w : World) : Calls Try.prog 69 #[I a, I b] w fun e w' => e = .returned (.tuple #[I (gQ a b).1, .bool (gQ a b).2]) ∧ Below w.heap.size w w' := PQ.qg.calls a b _ _ w (PQ.Ua a b)
theorem pY (a b : Int) (w : World) : Calls Try.prog 66 #[I a, I b] w fun e w' => e = .returned (.tuple #[I (kC a b).1, .bool (kC a b).2]) ∧ Below w.heap.size w w' := PQ.p_.calls a b _ _ w (PQ.Ti a b)
theorem Le (a : Int) : ∃ h, PQ.iT.f a 1 = some h := by
 have e1 : mn (mx 1 0) 62 = 1 := by decide
 unfold PQ.iT.f
 rw [e1]
 repeat' split
 all_goals first | exact ⟨_, rfl⟩ | omega
theorem Ib (a b : Int) (w : World) : Calls Try.prog 123 #[I a, I b] w fun e w' => e = .returned (.tuple #[I (kS a b).1, .bool (kS a b).2]) ∧ Below w.heap.size w w' := by
 obtain ⟨h, hh⟩ := Le (wrap64 (a + b))
 have HH := Lib.hid (PQ.iT.calls _ 1 h · hh)
 unfold kS
 rw [hh]
 go_enter Try.func123, Try.ntmps123
 go_wp2_with fail
 refine (HH.out _).mono ?_
 rintro e w' ⟨rfl, hb⟩
 have HB := Lib.hid hb
 clear hb
 go_wp2
 go_ret2
 exact ⟨rfl, HB.out⟩
theorem lQ {r c i k : Nat} (hk : k < r) (hi : i < c) : k * c + i < r * c := by
 have : (k + 1) * c ≤ r * c := Nat.mul_le_mul_right c hk
 rw [Nat.succ_mul] at this
 omega
theorem Ec (r c : Nat) (A : Option Addr) (cp g : Nat) (l : List Int) (w : World) (hr : r ≤ 8) (hc : c ≤ 8) (hl : l.length = r * c) (hA : Rd w A l) (R : Row w g 31 #[I r, I c, .slice A l.length cp]) :
 vZ w 109 #[.pointer (some ⟨g, 0, none⟩)] c r (fun i k => l.getD (k * c + i) 0) (fun _ _ => false) := by
 intro i k w' hi hk hb
 have R' := R.below hb R.lt
 have x := R'.cell
 have hle : r * c ≤ 8 * 8 := Nat.mul_le_mul hr hc
 have HC := Lib.hid (jV r c A cp l k i w' (hA.below hb) (by rw [hl]; exact lQ hk hi) (by rw [hl]; omega))
 clear hb R R' hA hr hc hle hl
 show Calls Try.prog 109 #[I i, I k, .pointer (some ⟨g, 0, none⟩)] w' _
 go_enter Try.func109, Try.ntmps109
 go_wp2_with fail
 refine HC.out.mono ?_
 rintro e w2 ⟨rfl, hb⟩
 have HB := Lib.hid hb
 clear hb
 go_wp2
 go_ret2
 exact ⟨rfl, HB.out⟩
theorem qE (n : Nat) (cap : Array Value) (r c : Nat) (q : Nat → Nat → Int) (o : Nat → Nat → Bool) (w : World) (L : List Int) (b : Bool) (hL : upto c q r = L) (hb : sH c o r = b) (hr : r ≤ 8) (hc : c ≤ 8) (he : Enters n) (ht : vZ w n cap r c q o) :
 Calls Try.prog 82 #[.agg #[I r, I c], .func (.func n) #[] cap] w fun e w' => ∃ A cp, e = .returned (.tuple #[.agg #[I r, I c, .slice A L.length cp], .bool b]) ∧ Own w' w.heap.size (.slice A L.length cp) L ∧ Below w.heap.size w w' := by
 subst hL hb
 refine (Hw n cap r c q o w hr hc he ht).mono ?_
 rintro e w' ⟨v, rfl, ho, hb⟩
 obtain ⟨A, cp, rfl, _, _⟩ := ho.reads
 exact ⟨A, cp, rfl, ho, hb⟩
theorem xG (c r : Nat) : sH c (fun _ _ => false) r = false := by simp [sH]
def xP (r c : Nat) (l : List Int) : List Int := upto r (fun i k => l.getD (k * c + i) 0) c
theorem OE : Enters 109 := enters Try.func109 rfl rfl
theorem hmf (fn : Fn) (first cap : Array Value) (w : World) : (Instr.makeFunc fn first cap).run Try.prog w = .ok (.func fn first cap) w := rfl
theorem l_ (r c : Nat) (A : Option Addr) (cp : Nat) (l : List Int) (w : World) (hr : r ≤ 8) (hc : c ≤ 8) (hl : l.length = r * c) (hA : Rd w A l) :
 Calls Try.prog 77 #[.agg #[I r, I c, .slice A l.length cp]] w fun e w' => ∃ v, e = .returned (.agg #[I c, I r, v]) ∧ Own w' w.heap.size v (xP r c l) ∧ Below w.heap.size w w' := by
 have N : Hid (aS w [(31, #[I r, I c, .slice A l.length cp]), (31, #[I 0, I 0, .slice none 0 0])] ((w.alloc (.cells #[I r, I c, .slice A l.length cp] 31)).alloc (.cells #[I 0, I 0, .slice none 0 0] 31))) := Lib.hid (((aS.none w).push (by simp) _ _).push (by simp) _ _)
 obtain ⟨L, hL⟩ : ∃ L, xP r c l = L := ⟨_, rfl⟩
 have HM := Lib.hid (qE 109 #[.pointer (some ⟨w.heap.size, 0, none⟩)] c r _ _ _ L false hL (xG _ _) hc hr OE (Ec r c A cp w.heap.size l _ hr hc hl (hA.below N.out.be) N.out.r0))
 rw [hL]
 clear hr hc hl hA hL
 have hmf := hmf
 go_enter Try.func77, Try.ntmps77
 go_wp2_with fail
 refine HM.out.mono ?_
 rintro e w2 ⟨A2, c2, rfl, ho, hb⟩
 have O := Lib.hid ho
 have N2 := Lib.hid (N.out.below hb)
 clear ho hb N HM
 have x1 := N2.out.r1.cell
 have g1 := N2.out.r1.free
 have t1 := N2.out.r1.lt
 go_wp2
 refine bodyPost_ret (Qd rfl rfl ((N2.out.r1.bG _ _ _).alloc _)) rfl ⟨_, rfl, ?_, (Below.bG N2.out.be (by omega) _ _ _).alloc (by have := N2.out.be.size; simp; omega) _⟩
 exact ((O.out.bG (by simp) _ _ _).alloc _).lower (by simp; omega)
end Go.Proofs.Ytnijhjbcjeohhaa.KK

namespace Go.Proofs.Ytnijhjbcjeohhaa.KK
open Go.RowKit Go.Proofs.af.aA Go.Proofs.af.aN Go.Proofs.af.aP
set_option linter.unusedVariables false
set_option linter.unusedSimpArgs false
def iy (f : Int → Int → Int × Bool) (r c : Nat) (l m : List Int) : List Int := upto c (fun i k => (f (l.getD (i * c + k) 0) (m.getD (i * c + k) 0)).1) r
def jf (f : Int → Int → Int × Bool) (r c : Nat) (l m : List Int) : Bool := sH c (fun i k => (f (l.getD (i * c + k) 0) (m.getD (i * c + k) 0)).2) r
attribute [local go_sem high] PQ.Ox
theorem iL (r c : Int) (A : Option Addr) (l : List Int) (cp : Nat) (w : World) (hA : Rd w A l) (hc : l.length ≤ cp) : Calls Try.prog 107 #[.agg #[I r, I c, .slice A l.length cp]] w fun e w' => e = .returned (.agg #[I r, I c]) ∧ Below w.heap.size w w' :=
 PQ.mY.calls r c A cp l r c w hA hc rfl
theorem zn : Enters 122 := enters Try.func122 rfl rfl
theorem J6 (r c : Nat) (A A' : Option Addr) (cp cp' : Nat) (n g : Nat) (l m : List Int) (w : World) (hr : r ≤ 8) (hc : c ≤ 8) (hl : l.length = r * c) (hm : m.length = r * c) (hA : Rd w A l) (hA' : Rd w A' m)
 (D : Row w n 119 #[.func (.func 69) #[] #[]]) (R : Row w g 31 #[I r, I c, .slice A l.length cp]) (R' : Row w (g + 1) 31 #[I r, I c, .slice A' m.length cp']) (hn : True) :
 vZ w 122 #[.pointer (some ⟨n, 0, none⟩), .pointer (some ⟨g, 0, none⟩), .pointer (some ⟨g + 1, 0, none⟩)] r c (fun i k => (gQ (l.getD (i * c + k) 0) (m.getD (i * c + k) 0)).1) (fun i k => (gQ (l.getD (i * c + k) 0) (m.getD (i * c + k) 0)).2) := by
 intro i k w' hi hk hb
 have D1 := Lib.hid (D.below hb D.lt)
 have R1 := Lib.hid (R.below hb R.lt)
 have R2 := Lib.hid (R'.below hb R'.lt)
 have hle : r * c ≤ 8 * 8 := Nat.mul_le_mul hr hc
 have hlt : i * c + k < r * c := lQ hi hk
 have H1 := Lib.hid (fun w' h => jV r c A cp l i k w' h (by rw [hl]; exact hlt) (by rw [hl]; omega))
 have H2 := Lib.hid (fun w' h => jV r c A' cp' m i k w' h (by rw [hm]; exact hlt) (by rw [hm]; omega))
 have A1 := Lib.hid (hA.below hb)
 have A2 := Lib.hid (hA'.below hb)
 obtain ⟨x, hx⟩ : ∃ x, l.getD (i * c + k) 0 = x := ⟨_, rfl⟩
 obtain ⟨y, hy⟩ : ∃ y, m.getD (i * c + k) 0 = y := ⟨_, rfl⟩
 rw [hx] at H1
 rw [hy] at H2
 show Calls Try.prog 122 #[I i, I k, .pointer (some ⟨n, 0, none⟩), .pointer (some ⟨g, 0, none⟩), .pointer (some ⟨g + 1, 0, none⟩)] w' fun e w'' => e = .returned (.tuple #[I (gQ (l.getD (i * c + k) 0) (m.getD (i * c + k) 0)).1, .bool (gQ (l.getD (i * c + k) 0) (m.getD (i * c + k) 0)).2]) ∧ Below w'.heap.size w' w''
 rw [hx, hy]
 have H3 := Lib.hid (fun w => nP x y w)
 obtain ⟨z, hz⟩ : ∃ z, gQ x y = z := ⟨_, rfl⟩
 rw [hz] at H3 ⊢
 obtain ⟨z1, z2⟩ := z
 clear hb R R' D hA hA' hr hc hle hl hm hx hy hz hlt
 have K : Hid (∀ w2, Below w'.heap.size w' w2 → (∀ o, w2.cell? ⟨n, o, none⟩ = #[.func (.func 69) #[] #[]][o]?) ∧ (∀ o, w2.cell? ⟨g, o, none⟩ = #[I r, I c, .slice A l.length cp][o]?) ∧ (∀ o, w2.cell? ⟨g + 1, o, none⟩ = #[I r, I c, .slice A' m.length cp'][o]?)) := Lib.hid (fun w2 hb => ⟨(D1.out.below hb D1.out.lt).cell, (R1.out.below hb R1.out.lt).cell, (R2.out.below hb R2.out.lt).cell⟩)
 have B0 := Lib.hid (Below.refl w'.heap.size w')
 have B1 := Lib.hid B0.out.drew
 have x1 := D1.out.cell
 have x2 := R1.out.cell
 have x3 := R2.out.cell
 clear D1 R1 R2
 go_enter Try.func122, Try.ntmps122
 go_wp2_with fail
 go_region_held3 (fun w2 => (∀ o, w2.cell? ⟨n, o, none⟩ = #[.func (.func 69) #[] #[]][o]?) ∧ (∀ o, w2.cell? ⟨g, o, none⟩ = #[I r, I c, .slice A l.length cp][o]?) ∧ (∀ o, w2.cell? ⟨g + 1, o, none⟩ = #[I r, I c, .slice A' m.length cp'][o]?))
  (first | with_reducible exact K.out _ B4.out | with_reducible exact K.out _ B3.out | with_reducible exact K.out _ B2.out | with_reducible exact K.out _ B1.out | with_reducible exact K.out _ B0.out)
  (first
    | (go_at_call 69
       refine (H3.out _).mono ?_
       rintro e w4 ⟨rfl, hb⟩
       have B4 := Lib.hid (B3.out.trans (hb.mono B3.out.size))
       clear hb)
    | (go_at_call 110
       refine (H2.out _ (A2.out.below B2.out)).mono ?_
       rintro e w3 ⟨rfl, hb⟩
       have B3 := Lib.hid (B2.out.trans (hb.mono B2.out.size))
       clear hb)
    | (go_at_call 110
       refine (H1.out _ (A1.out.below B1.out)).mono ?_
       rintro e w2 ⟨rfl, hb⟩
       have B2 := Lib.hid (B1.out.trans (hb.mono B1.out.size))
       clear hb))
 all_goals
  go_wp2
  go_ret2
  exact ⟨rfl, B4.out⟩
theorem OT (r c : Nat) (A A' : Option Addr) (cp cp' : Nat) (l m : List Int) (w : World) (hr : r ≤ 8) (hc : c ≤ 8) (hl : l.length = r * c) (hm : m.length = r * c) (hA : Rd w A l) (hA' : Rd w A' m) (hcp : l.length ≤ cp) (vK : m.length ≤ cp') :
 Calls Try.prog 115 #[.agg #[I r, I c, (.slice A l.length cp)], .agg #[I r, I c, (.slice A' m.length cp')], .func (.func 69) #[] #[]] w fun e w' => ∃ A2 c2, e = .returned (.tuple #[.agg #[I r, I c, .slice A2 (iy gQ r c l m).length c2], .bool (jf gQ r c l m), I 0]) ∧ Own w' w.heap.size (.slice A2 (iy gQ r c l m).length c2) (iy gQ r c l m) ∧ Below w.heap.size w w' := by
 have N : Hid (aS w [(31, #[I r, I c, (.slice A l.length cp)]), (31, #[I r, I c, (.slice A' m.length cp')]), (119, #[.func (.func 69) #[] #[]]), (31, #[I 0, I 0, .slice none 0 0])] ((((w.alloc (.cells #[I r, I c, (.slice A l.length cp)] 31)).alloc (.cells #[I r, I c, (.slice A' m.length cp')] 31)).alloc (.cells #[.func (.func 69) #[] #[]] 119)).alloc (.cells #[I 0, I 0, .slice none 0 0] 31))) := Lib.hid (((((aS.none w).push (by simp) _ _).push (by simp) _ _).push (by simp) _ _).push (by simp) _ _)
 have O1 := Lib.hid (fun w' h => iL r c A l cp w' h hcp)
 have O2 := Lib.hid (fun w' h => iL r c A' m cp' w' h vK)
 have HA := Lib.hid hA
 have HA' := Lib.hid hA'
 obtain ⟨L, hL⟩ : ∃ L, iy gQ r c l m = L := ⟨_, rfl⟩
 obtain ⟨b, hb⟩ : ∃ b, jf gQ r c l m = b := ⟨_, rfl⟩
 have HM := Lib.hid (fun w' (h : aS w [(31, #[I r, I c, (.slice A l.length cp)]), (31, #[I r, I c, (.slice A' m.length cp')]), (119, #[.func (.func 69) #[] #[]]), (31, #[I 0, I 0, .slice none 0 0])] w') => qE 122 #[.pointer (some ⟨w.heap.size + 1 + 1, 0, none⟩), .pointer (some ⟨w.heap.size, 0, none⟩), .pointer (some ⟨w.heap.size + 1, 0, none⟩)] r c _ _ w' L b hL hb hr hc zn (J6 r c A A' cp cp' _ w.heap.size l m w' hr hc hl hm (hA.below h.be) (hA'.below h.be) h.r2 h.r0 h.r1 trivial))
 rw [hL, hb]
 clear hr hc hl hm hA hA' hcp vK hL hb
 have KK : Hid (∀ w', aS w [(31, #[I r, I c, (.slice A l.length cp)]), (31, #[I r, I c, (.slice A' m.length cp')]), (119, #[.func (.func 69) #[] #[]]), (31, #[I 0, I 0, .slice none 0 0])] w' → (∀ o, w'.cell? ⟨w.heap.size, o, none⟩ = #[I r, I c, (.slice A l.length cp)][o]?) ∧ (∀ o, w'.cell? ⟨w.heap.size + 1, o, none⟩ = #[I r, I c, (.slice A' m.length cp')][o]?)) := Lib.hid (fun w' h => ⟨h.r0.cell, h.r1.cell⟩)
 have y0 := N.out.r0.cell
 have y1 := N.out.r1.cell
 go_enter Try.func115, Try.ntmps115
 go_wp2_with fail
 go_region_held3 (fun w' => (∀ o, w'.cell? ⟨w.heap.size, o, none⟩ = #[I r, I c, (.slice A l.length cp)][o]?) ∧ (∀ o, w'.cell? ⟨w.heap.size + 1, o, none⟩ = #[I r, I c, (.slice A' m.length cp')][o]?))
  (first | with_reducible exact KK.out _ N3.out | with_reducible exact KK.out _ N2.out | with_reducible exact KK.out _ N.out.drew | with_reducible exact KK.out _ N.out)
  (first
    | (go_at_call 107
       refine (O2.out _ (HA'.out.below N2.out.be)).mono ?_
       rintro e w3 ⟨rfl, hb⟩
       have N3 := Lib.hid (N2.out.below hb)
       clear hb)
    | (go_at_call 107
       refine (O1.out _ (HA.out.below N.out.drew.be)).mono ?_
       rintro e w2 ⟨rfl, hb⟩
       have N2 := Lib.hid (N.out.drew.below hb)
       clear hb))
 have x1 := N3.out.r0.cell
 have t1 := N3.out.r0.lt
 have hmf := hmf
 go_wp2_with (go_at_call 107
              refine (O1.out _ (HA.out.below N3.out.be)).mono ?_
              rintro e w4 ⟨rfl, hb⟩
              have N4 := Lib.hid (N3.out.below hb)
              clear hb)
 refine (HM.out _ N4.out).mono ?_
 rintro e w5 ⟨A2, c2, rfl, ho, hb⟩
 have O := Lib.hid ho
 have N5 := Lib.hid (N4.out.below hb)
 have S4 := N4.out.be.size
 have L4 := N4.out.r3.lt
 clear ho hb x1 t1
 have x3 := N5.out.r3.cell
 have g3 := N5.out.r3.free
 have t3 := N5.out.r3.lt
 go_wp2
 refine bodyPost_ret (rG rfl rfl ((N5.out.r3.bG _ _ _).alloc _)) rfl ⟨_, _, rfl, ?_, (Below.bG N5.out.be (by omega) _ _ _).alloc (by have := N5.out.be.size; simp; omega) _⟩
 exact ((O.out.bG (by omega) _ _ _).alloc _).lower (by omega)
theorem JY (r c : Nat) (A A' : Option Addr) (cp cp' : Nat) (n g : Nat) (l m : List Int) (w : World) (hr : r ≤ 8) (hc : c ≤ 8) (hl : l.length = r * c) (hm : m.length = r * c) (hA : Rd w A l) (hA' : Rd w A' m)
 (D : Row w n 119 #[.func (.func 66) #[] #[]]) (R : Row w g 31 #[I r, I c, .slice A l.length cp]) (R' : Row w (g + 1) 31 #[I r, I c, .slice A' m.length cp']) (hn : True) :
 vZ w 122 #[.pointer (some ⟨n, 0, none⟩), .pointer (some ⟨g, 0, none⟩), .pointer (some ⟨g + 1, 0, none⟩)] r c (fun i k => (kC (l.getD (i * c + k) 0) (m.getD (i * c + k) 0)).1) (fun i k => (kC (l.getD (i * c + k) 0) (m.getD (i * c + k) 0)).2) := by
 intro i k w' hi hk hb
 have D1 := Lib.hid (D.below hb D.lt)
 have R1 := Lib.hid (R.below hb R.lt)
 have R2 := Lib.hid (R'.below hb R'.lt)
 have hle : r * c ≤ 8 * 8 := Nat.mul_le_mul hr hc
 have hlt : i * c + k < r * c := lQ hi hk
 have H1 := Lib.hid (fun w' h => jV r c A cp l i k w' h (by rw [hl]; exact hlt) (by rw [hl]; omega))
 have H2 := Lib.hid (fun w' h => jV r c A' cp' m i k w' h (by rw [hm]; exact hlt) (by rw [hm]; omega))
 have A1 := Lib.hid (hA.below hb)
 have A2 := Lib.hid (hA'.below hb)
 obtain ⟨x, hx⟩ : ∃ x, l.getD (i * c + k) 0 = x := ⟨_, rfl⟩
 obtain ⟨y, hy⟩ : ∃ y, m.getD (i * c + k) 0 = y := ⟨_, rfl⟩
 rw [hx] at H1
 rw [hy] at H2
 show Calls Try.prog 122 #[I i, I k, .pointer (some ⟨n, 0, none⟩), .pointer (some ⟨g, 0, none⟩), .pointer (some ⟨g + 1, 0, none⟩)] w' fun e w'' => e = .returned (.tuple #[I (kC (l.getD (i * c + k) 0) (m.getD (i * c + k) 0)).1, .bool (kC (l.getD (i * c + k) 0) (m.getD (i * c + k) 0)).2]) ∧ Below w'.heap.size w' w''
 rw [hx, hy]
 have H3 := Lib.hid (fun w => pY x y w)
 obtain ⟨z, hz⟩ : ∃ z, kC x y = z := ⟨_, rfl⟩
 rw [hz] at H3 ⊢
 obtain ⟨z1, z2⟩ := z
 clear hb R R' D hA hA' hr hc hle hl hm hx hy hz hlt
 have K : Hid (∀ w2, Below w'.heap.size w' w2 → (∀ o, w2.cell? ⟨n, o, none⟩ = #[.func (.func 66) #[] #[]][o]?) ∧ (∀ o, w2.cell? ⟨g, o, none⟩ = #[I r, I c, .slice A l.length cp][o]?) ∧ (∀ o, w2.cell? ⟨g + 1, o, none⟩ = #[I r, I c, .slice A' m.length cp'][o]?)) := Lib.hid (fun w2 hb => ⟨(D1.out.below hb D1.out.lt).cell, (R1.out.below hb R1.out.lt).cell, (R2.out.below hb R2.out.lt).cell⟩)
 have B0 := Lib.hid (Below.refl w'.heap.size w')
 have B1 := Lib.hid B0.out.drew
 have x1 := D1.out.cell
 have x2 := R1.out.cell
 have x3 := R2.out.cell
 clear D1 R1 R2
 go_enter Try.func122, Try.ntmps122
 go_wp2_with fail
 go_region_held3 (fun w2 => (∀ o, w2.cell? ⟨n, o, none⟩ = #[.func (.func 66) #[] #[]][o]?) ∧ (∀ o, w2.cell? ⟨g, o, none⟩ = #[I r, I c, .slice A l.length cp][o]?) ∧ (∀ o, w2.cell? ⟨g + 1, o, none⟩ = #[I r, I c, .slice A' m.length cp'][o]?))
  (first | with_reducible exact K.out _ B4.out | with_reducible exact K.out _ B3.out | with_reducible exact K.out _ B2.out | with_reducible exact K.out _ B1.out | with_reducible exact K.out _ B0.out)
  (first
    | (go_at_call 66
       refine (H3.out _).mono ?_
       rintro e w4 ⟨rfl, hb⟩
       have B4 := Lib.hid (B3.out.trans (hb.mono B3.out.size))
       clear hb)
    | (go_at_call 110
       refine (H2.out _ (A2.out.below B2.out)).mono ?_
       rintro e w3 ⟨rfl, hb⟩
       have B3 := Lib.hid (B2.out.trans (hb.mono B2.out.size))
       clear hb)
    | (go_at_call 110
       refine (H1.out _ (A1.out.below B1.out)).mono ?_
       rintro e w2 ⟨rfl, hb⟩
       have B2 := Lib.hid (B1.out.trans (hb.mono B1.out.size))
       clear hb))
 all_goals
  go_wp2
  go_ret2
  exact ⟨rfl, B4.out⟩
theorem OQ (r c : Nat) (A A' : Option Addr) (cp cp' : Nat) (l m : List Int) (w : World) (hr : r ≤ 8) (hc : c ≤ 8) (hl : l.length = r * c) (hm : m.length = r * c) (hA : Rd w A l) (hA' : Rd w A' m) (hcp : l.length ≤ cp) (vK : m.length ≤ cp') :
 Calls Try.prog 115 #[.agg #[I r, I c, (.slice A l.length cp)], .agg #[I r, I c, (.slice A' m.length cp')], .func (.func 66) #[] #[]] w fun e w' => ∃ A2 c2, e = .returned (.tuple #[.agg #[I r, I c, .slice A2 (iy kC r c l m).length c2], .bool (jf kC r c l m), I 0]) ∧ Own w' w.heap.size (.slice A2 (iy kC r c l m).length c2) (iy kC r c l m) ∧ Below w.heap.size w w' := by
 have N : Hid (aS w [(31, #[I r, I c, (.slice A l.length cp)]), (31, #[I r, I c, (.slice A' m.length cp')]), (119, #[.func (.func 66) #[] #[]]), (31, #[I 0, I 0, .slice none 0 0])] ((((w.alloc (.cells #[I r, I c, (.slice A l.length cp)] 31)).alloc (.cells #[I r, I c, (.slice A' m.length cp')] 31)).alloc (.cells #[.func (.func 66) #[] #[]] 119)).alloc (.cells #[I 0, I 0, .slice none 0 0] 31))) := Lib.hid (((((aS.none w).push (by simp) _ _).push (by simp) _ _).push (by simp) _ _).push (by simp) _ _)
 have O1 := Lib.hid (fun w' h => iL r c A l cp w' h hcp)
 have O2 := Lib.hid (fun w' h => iL r c A' m cp' w' h vK)
 have HA := Lib.hid hA
 have HA' := Lib.hid hA'
 obtain ⟨L, hL⟩ : ∃ L, iy kC r c l m = L := ⟨_, rfl⟩
 obtain ⟨b, hb⟩ : ∃ b, jf kC r c l m = b := ⟨_, rfl⟩
 have HM := Lib.hid (fun w' (h : aS w [(31, #[I r, I c, (.slice A l.length cp)]), (31, #[I r, I c, (.slice A' m.length cp')]), (119, #[.func (.func 66) #[] #[]]), (31, #[I 0, I 0, .slice none 0 0])] w') => qE 122 #[.pointer (some ⟨w.heap.size + 1 + 1, 0, none⟩), .pointer (some ⟨w.heap.size, 0, none⟩), .pointer (some ⟨w.heap.size + 1, 0, none⟩)] r c _ _ w' L b hL hb hr hc zn (JY r c A A' cp cp' _ w.heap.size l m w' hr hc hl hm (hA.below h.be) (hA'.below h.be) h.r2 h.r0 h.r1 trivial))
 rw [hL, hb]
 clear hr hc hl hm hA hA' hcp vK hL hb
 have KK : Hid (∀ w', aS w [(31, #[I r, I c, (.slice A l.length cp)]), (31, #[I r, I c, (.slice A' m.length cp')]), (119, #[.func (.func 66) #[] #[]]), (31, #[I 0, I 0, .slice none 0 0])] w' → (∀ o, w'.cell? ⟨w.heap.size, o, none⟩ = #[I r, I c, (.slice A l.length cp)][o]?) ∧ (∀ o, w'.cell? ⟨w.heap.size + 1, o, none⟩ = #[I r, I c, (.slice A' m.length cp')][o]?)) := Lib.hid (fun w' h => ⟨h.r0.cell, h.r1.cell⟩)
 have y0 := N.out.r0.cell
 have y1 := N.out.r1.cell
 go_enter Try.func115, Try.ntmps115
 go_wp2_with fail
 go_region_held3 (fun w' => (∀ o, w'.cell? ⟨w.heap.size, o, none⟩ = #[I r, I c, (.slice A l.length cp)][o]?) ∧ (∀ o, w'.cell? ⟨w.heap.size + 1, o, none⟩ = #[I r, I c, (.slice A' m.length cp')][o]?))
  (first | with_reducible exact KK.out _ N3.out | with_reducible exact KK.out _ N2.out | with_reducible exact KK.out _ N.out.drew | with_reducible exact KK.out _ N.out)
  (first
    | (go_at_call 107
       refine (O2.out _ (HA'.out.below N2.out.be)).mono ?_
       rintro e w3 ⟨rfl, hb⟩
       have N3 := Lib.hid (N2.out.below hb)
       clear hb)
    | (go_at_call 107
       refine (O1.out _ (HA.out.below N.out.drew.be)).mono ?_
       rintro e w2 ⟨rfl, hb⟩
       have N2 := Lib.hid (N.out.drew.below hb)
       clear hb))
 have x1 := N3.out.r0.cell
 have t1 := N3.out.r0.lt
 have hmf := hmf
 go_wp2_with (go_at_call 107
              refine (O1.out _ (HA.out.below N3.out.be)).mono ?_
              rintro e w4 ⟨rfl, hb⟩
              have N4 := Lib.hid (N3.out.below hb)
              clear hb)
 refine (HM.out _ N4.out).mono ?_
 rintro e w5 ⟨A2, c2, rfl, ho, hb⟩
 have O := Lib.hid ho
 have N5 := Lib.hid (N4.out.below hb)
 have S4 := N4.out.be.size
 have L4 := N4.out.r3.lt
 clear ho hb x1 t1
 have x3 := N5.out.r3.cell
 have g3 := N5.out.r3.free
 have t3 := N5.out.r3.lt
 go_wp2
 refine bodyPost_ret (rG rfl rfl ((N5.out.r3.bG _ _ _).alloc _)) rfl ⟨_, _, rfl, ?_, (Below.bG N5.out.be (by omega) _ _ _).alloc (by have := N5.out.be.size; simp; omega) _⟩
 exact ((O.out.bG (by omega) _ _ _).alloc _).lower (by omega)
theorem GR (r c : Nat) (A A' : Option Addr) (cp cp' : Nat) (n g : Nat) (l m : List Int) (w : World) (hr : r ≤ 8) (hc : c ≤ 8) (hl : l.length = r * c) (hm : m.length = r * c) (hA : Rd w A l) (hA' : Rd w A' m)
 (D : Row w n 119 #[.func (.func 123) #[] #[]]) (R : Row w g 31 #[I r, I c, .slice A l.length cp]) (R' : Row w (g + 1) 31 #[I r, I c, .slice A' m.length cp']) (hn : True) :
 vZ w 122 #[.pointer (some ⟨n, 0, none⟩), .pointer (some ⟨g, 0, none⟩), .pointer (some ⟨g + 1, 0, none⟩)] r c (fun i k => (kS (l.getD (i * c + k) 0) (m.getD (i * c + k) 0)).1) (fun i k => (kS (l.getD (i * c + k) 0) (m.getD (i * c + k) 0)).2) := by
 intro i k w' hi hk hb
 have D1 := Lib.hid (D.below hb D.lt)
 have R1 := Lib.hid (R.below hb R.lt)
 have R2 := Lib.hid (R'.below hb R'.lt)
 have hle : r * c ≤ 8 * 8 := Nat.mul_le_mul hr hc
 have hlt : i * c + k < r * c := lQ hi hk
 have H1 := Lib.hid (fun w' h => jV r c A cp l i k w' h (by rw [hl]; exact hlt) (by rw [hl]; omega))
 have H2 := Lib.hid (fun w' h => jV r c A' cp' m i k w' h (by rw [hm]; exact hlt) (by rw [hm]; omega))
 have A1 := Lib.hid (hA.below hb)
 have A2 := Lib.hid (hA'.below hb)
 obtain ⟨x, hx⟩ : ∃ x, l.getD (i * c + k) 0 = x := ⟨_, rfl⟩
 obtain ⟨y, hy⟩ : ∃ y, m.getD (i * c + k) 0 = y := ⟨_, rfl⟩
 rw [hx] at H1
 rw [hy] at H2
 show Calls Try.prog 122 #[I i, I k, .pointer (some ⟨n, 0, none⟩), .pointer (some ⟨g, 0, none⟩), .pointer (some ⟨g + 1, 0, none⟩)] w' fun e w'' => e = .returned (.tuple #[I (kS (l.getD (i * c + k) 0) (m.getD (i * c + k) 0)).1, .bool (kS (l.getD (i * c + k) 0) (m.getD (i * c + k) 0)).2]) ∧ Below w'.heap.size w' w''
 rw [hx, hy]
 have H3 := Lib.hid (fun w => Ib x y w)
 obtain ⟨z, hz⟩ : ∃ z, kS x y = z := ⟨_, rfl⟩
 rw [hz] at H3 ⊢
 obtain ⟨z1, z2⟩ := z
 clear hb R R' D hA hA' hr hc hle hl hm hx hy hz hlt
 have K : Hid (∀ w2, Below w'.heap.size w' w2 → (∀ o, w2.cell? ⟨n, o, none⟩ = #[.func (.func 123) #[] #[]][o]?) ∧ (∀ o, w2.cell? ⟨g, o, none⟩ = #[I r, I c, .slice A l.length cp][o]?) ∧ (∀ o, w2.cell? ⟨g + 1, o, none⟩ = #[I r, I c, .slice A' m.length cp'][o]?)) := Lib.hid (fun w2 hb => ⟨(D1.out.below hb D1.out.lt).cell, (R1.out.below hb R1.out.lt).cell, (R2.out.below hb R2.out.lt).cell⟩)
 have B0 := Lib.hid (Below.refl w'.heap.size w')
 have B1 := Lib.hid B0.out.drew
 have x1 := D1.out.cell
 have x2 := R1.out.cell
 have x3 := R2.out.cell
 clear D1 R1 R2
 go_enter Try.func122, Try.ntmps122
 go_wp2_with fail
 go_region_held3 (fun w2 => (∀ o, w2.cell? ⟨n, o, none⟩ = #[.func (.func 123) #[] #[]][o]?) ∧ (∀ o, w2.cell? ⟨g, o, none⟩ = #[I r, I c, .slice A l.length cp][o]?) ∧ (∀ o, w2.cell? ⟨g + 1, o, none⟩ = #[I r, I c, .slice A' m.length cp'][o]?))
  (first | with_reducible exact K.out _ B4.out | with_reducible exact K.out _ B3.out | with_reducible exact K.out _ B2.out | with_reducible exact K.out _ B1.out | with_reducible exact K.out _ B0.out)
  (first
    | (go_at_call 123
       refine (H3.out _).mono ?_
       rintro e w4 ⟨rfl, hb⟩
       have B4 := Lib.hid (B3.out.trans (hb.mono B3.out.size))
       clear hb)
    | (go_at_call 110
       refine (H2.out _ (A2.out.below B2.out)).mono ?_
       rintro e w3 ⟨rfl, hb⟩
       have B3 := Lib.hid (B2.out.trans (hb.mono B2.out.size))
       clear hb)
    | (go_at_call 110
       refine (H1.out _ (A1.out.below B1.out)).mono ?_
       rintro e w2 ⟨rfl, hb⟩
       have B2 := Lib.hid (B1.out.trans (hb.mono B1.out.size))
       clear hb))
 all_goals
  go_wp2
  go_ret2
  exact ⟨rfl, B4.out⟩
theorem LH (r c : Nat) (A A' : Option Addr) (cp cp' : Nat) (l m : List Int) (w : World) (hr : r ≤ 8) (hc : c ≤ 8) (hl : l.length = r * c) (hm : m.length = r * c) (hA : Rd w A l) (hA' : Rd w A' m) (hcp : l.length ≤ cp) (vK : m.length ≤ cp') :
 Calls Try.prog 115 #[.agg #[I r, I c, (.slice A l.length cp)], .agg #[I r, I c, (.slice A' m.length cp')], .func (.func 123) #[] #[]] w fun e w' => ∃ A2 c2, e = .returned (.tuple #[.agg #[I r, I c, .slice A2 (iy kS r c l m).length c2], .bool (jf kS r c l m), I 0]) ∧ Own w' w.heap.size (.slice A2 (iy kS r c l m).length c2) (iy kS r c l m) ∧ Below w.heap.size w w' := by
 have N : Hid (aS w [(31, #[I r, I c, (.slice A l.length cp)]), (31, #[I r, I c, (.slice A' m.length cp')]), (119, #[.func (.func 123) #[] #[]]), (31, #[I 0, I 0, .slice none 0 0])] ((((w.alloc (.cells #[I r, I c, (.slice A l.length cp)] 31)).alloc (.cells #[I r, I c, (.slice A' m.length cp')] 31)).alloc (.cells #[.func (.func 123) #[] #[]] 119)).alloc (.cells #[I 0, I 0, .slice none 0 0] 31))) := Lib.hid (((((aS.none w).push (by simp) _ _).push (by simp) _ _).push (by simp) _ _).push (by simp) _ _)
 have O1 := Lib.hid (fun w' h => iL r c A l cp w' h hcp)
 have O2 := Lib.hid (fun w' h => iL r c A' m cp' w' h vK)
 have HA := Lib.hid hA
 have HA' := Lib.hid hA'
 obtain ⟨L, hL⟩ : ∃ L, iy kS r c l m = L := ⟨_, rfl⟩
 obtain ⟨b, hb⟩ : ∃ b, jf kS r c l m = b := ⟨_, rfl⟩
 have HM := Lib.hid (fun w' (h : aS w [(31, #[I r, I c, (.slice A l.length cp)]), (31, #[I r, I c, (.slice A' m.length cp')]), (119, #[.func (.func 123) #[] #[]]), (31, #[I 0, I 0, .slice none 0 0])] w') => qE 122 #[.pointer (some ⟨w.heap.size + 1 + 1, 0, none⟩), .pointer (some ⟨w.heap.size, 0, none⟩), .pointer (some ⟨w.heap.size + 1, 0, none⟩)] r c _ _ w' L b hL hb hr hc zn (GR r c A A' cp cp' _ w.heap.size l m w' hr hc hl hm (hA.below h.be) (hA'.below h.be) h.r2 h.r0 h.r1 trivial))
 rw [hL, hb]
 clear hr hc hl hm hA hA' hcp vK hL hb
 have KK : Hid (∀ w', aS w [(31, #[I r, I c, (.slice A l.length cp)]), (31, #[I r, I c, (.slice A' m.length cp')]), (119, #[.func (.func 123) #[] #[]]), (31, #[I 0, I 0, .slice none 0 0])] w' → (∀ o, w'.cell? ⟨w.heap.size, o, none⟩ = #[I r, I c, (.slice A l.length cp)][o]?) ∧ (∀ o, w'.cell? ⟨w.heap.size + 1, o, none⟩ = #[I r, I c, (.slice A' m.length cp')][o]?)) := Lib.hid (fun w' h => ⟨h.r0.cell, h.r1.cell⟩)
 have y0 := N.out.r0.cell
 have y1 := N.out.r1.cell
 go_enter Try.func115, Try.ntmps115
 go_wp2_with fail
 go_region_held3 (fun w' => (∀ o, w'.cell? ⟨w.heap.size, o, none⟩ = #[I r, I c, (.slice A l.length cp)][o]?) ∧ (∀ o, w'.cell? ⟨w.heap.size + 1, o, none⟩ = #[I r, I c, (.slice A' m.length cp')][o]?))
  (first | with_reducible exact KK.out _ N3.out | with_reducible exact KK.out _ N2.out | with_reducible exact KK.out _ N.out.drew | with_reducible exact KK.out _ N.out)
  (first
    | (go_at_call 107
       refine (O2.out _ (HA'.out.below N2.out.be)).mono ?_
       rintro e w3 ⟨rfl, hb⟩
       have N3 := Lib.hid (N2.out.below hb)
       clear hb)
    | (go_at_call 107
       refine (O1.out _ (HA.out.below N.out.drew.be)).mono ?_
       rintro e w2 ⟨rfl, hb⟩
       have N2 := Lib.hid (N.out.drew.below hb)
       clear hb))
 have x1 := N3.out.r0.cell
 have t1 := N3.out.r0.lt
 have hmf := hmf
 go_wp2_with (go_at_call 107
              refine (O1.out _ (HA.out.below N3.out.be)).mono ?_
              rintro e w4 ⟨rfl, hb⟩
              have N4 := Lib.hid (N3.out.below hb)
              clear hb)
 refine (HM.out _ N4.out).mono ?_
 rintro e w5 ⟨A2, c2, rfl, ho, hb⟩
 have O := Lib.hid ho
 have N5 := Lib.hid (N4.out.below hb)
 have S4 := N4.out.be.size
 have L4 := N4.out.r3.lt
 clear ho hb x1 t1
 have x3 := N5.out.r3.cell
 have g3 := N5.out.r3.free
 have t3 := N5.out.r3.lt
 go_wp2
 refine bodyPost_ret (rG rfl rfl ((N5.out.r3.bG _ _ _).alloc _)) rfl ⟨_, _, rfl, ?_, (Below.bG N5.out.be (by omega) _ _ _).alloc (by have := N5.out.be.size; simp; omega) _⟩
 exact ((O.out.bG (by omega) _ _ _).alloc _).lower (by omega)
theorem Dx (r c : Nat) (A A' : Option Addr) (cp cp' : Nat) (l m : List Int) (w : World) (hr : r ≤ 8) (hc : c ≤ 8) (hl : l.length = r * c) (hm : m.length = r * c) (hA : Rd w A l) (hA' : Rd w A' m) (hcp : l.length ≤ cp) (vK : m.length ≤ cp') :
 Calls Try.prog 102 #[.agg #[I r, I c, (.slice A l.length cp)], .agg #[I r, I c, (.slice A' m.length cp')]] w fun e w' => ∃ v, e = .returned (.tuple #[.agg #[I r, I c, v], .bool (jf gQ r c l m), I 0]) ∧ Own w' w.heap.size v (iy gQ r c l m) ∧ Below w.heap.size w w' := by
 have N : Hid (aS w [(31, #[I r, I c, (.slice A l.length cp)]), (31, #[I r, I c, (.slice A' m.length cp')]), (31, #[I 0, I 0, .slice none 0 0])] (((w.alloc (.cells #[I r, I c, (.slice A l.length cp)] 31)).alloc (.cells #[I r, I c, (.slice A' m.length cp')] 31)).alloc (.cells #[I 0, I 0, .slice none 0 0] 31))) := Lib.hid ((((aS.none w).push (by simp) _ _).push (by simp) _ _).push (by simp) _ _)
 have HM := Lib.hid (OT r c A A' cp cp' l m _ hr hc hl hm (hA.below N.out.be) (hA'.below N.out.be) hcp vK)
 obtain ⟨L, hL⟩ : ∃ L, iy gQ r c l m = L := ⟨_, rfl⟩
 obtain ⟨b, hb⟩ : ∃ b, jf gQ r c l m = b := ⟨_, rfl⟩
 rw [hL, hb] at HM ⊢
 clear hr hc hl hm hA hA' hcp vK hL hb
 go_enter Try.func102, Try.ntmps102
 go_wp2_with fail
 refine HM.out.mono ?_
 rintro e w5 ⟨A2, c2, rfl, ho, hb⟩
 have O := Lib.hid ho
 have N5 := Lib.hid (N.out.below hb)
 clear ho hb N HM
 have x3 := N5.out.r2.cell
 have g3 := N5.out.r2.free
 have t3 := N5.out.r2.lt
 go_wp2
 refine bodyPost_ret (rG rfl rfl (N5.out.r2.bG _ _ _)) rfl ⟨_, rfl, ?_, Below.bG N5.out.be (by omega) _ _ _⟩
 exact (O.out.bG (by simp) _ _ _).lower (by simp; omega)
theorem Qm (r c : Nat) (A A' : Option Addr) (cp cp' : Nat) (l m : List Int) (w : World) (hr : r ≤ 8) (hc : c ≤ 8) (hl : l.length = r * c) (hm : m.length = r * c) (hA : Rd w A l) (hA' : Rd w A' m) (hcp : l.length ≤ cp) (vK : m.length ≤ cp') :
 Calls Try.prog 127 #[.agg #[I r, I c, (.slice A l.length cp)], .agg #[I r, I c, (.slice A' m.length cp')]] w fun e w' => ∃ v, e = .returned (.tuple #[.agg #[I r, I c, v], .bool (jf kC r c l m), I 0]) ∧ Own w' w.heap.size v (iy kC r c l m) ∧ Below w.heap.size w w' := by
 have N : Hid (aS w [(31, #[I r, I c, (.slice A l.length cp)]), (31, #[I r, I c, (.slice A' m.length cp')]), (31, #[I 0, I 0, .slice none 0 0])] (((w.alloc (.cells #[I r, I c, (.slice A l.length cp)] 31)).alloc (.cells #[I r, I c, (.slice A' m.length cp')] 31)).alloc (.cells #[I 0, I 0, .slice none 0 0] 31))) := Lib.hid ((((aS.none w).push (by simp) _ _).push (by simp) _ _).push (by simp) _ _)
 have HM := Lib.hid (OQ r c A A' cp cp' l m _ hr hc hl hm (hA.below N.out.be) (hA'.below N.out.be) hcp vK)
 obtain ⟨L, hL⟩ : ∃ L, iy kC r c l m = L := ⟨_, rfl⟩
 obtain ⟨b, hb⟩ : ∃ b, jf kC r c l m = b := ⟨_, rfl⟩
 rw [hL, hb] at HM ⊢
 clear hr hc hl hm hA hA' hcp vK hL hb
 go_enter Try.func127, Try.ntmps127
 go_wp2_with fail
 refine HM.out.mono ?_
 rintro e w5 ⟨A2, c2, rfl, ho, hb⟩
 have O := Lib.hid ho
 have N5 := Lib.hid (N.out.below hb)
 clear ho hb N HM
 have x3 := N5.out.r2.cell
 have g3 := N5.out.r2.free
 have t3 := N5.out.r2.lt
 go_wp2
 refine bodyPost_ret (rG rfl rfl (N5.out.r2.bG _ _ _)) rfl ⟨_, rfl, ?_, Below.bG N5.out.be (by omega) _ _ _⟩
 exact (O.out.bG (by simp) _ _ _).lower (by simp; omega)
end Go.Proofs.Ytnijhjbcjeohhaa.KK

