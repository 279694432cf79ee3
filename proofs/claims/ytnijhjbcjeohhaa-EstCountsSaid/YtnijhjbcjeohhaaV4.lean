import Derived.Test.YtnijhjbcjeohhaaV2
import Derived.Test.YtnijhjbcjeohhaaV3
import Derived.Test.YtnijhjbcjeohhaaV1
import Derived.Below
import Derived.Deep.Draws
import Derived.Deep.AppendLies
import Derived.Maps.AppendAt
import Derived.OwnWalk
import Derived.ArgAppend
import Derived.Laws.OwnMore
import Derived.Deep.OwnRows
import Derived.Tactics
import Derived.Laws.Slices
import Derived.WalkKit
import Derived.KernelRfl
import Derived.RowKit3
import Derived.Deep.LoopGhost
import Derived.Deep.QuietTactic
import Derived.WideLaws
import Derived.Deep.RegionHeld3
import Derived.Deep.RegionLaw
import Derived.Laws.Rows
import Derived.RowKit
import Derived.LoopTactic
import Derived.Lib.Hide
import Derived.Laws.AppendOwn
import Derived.IntWalk
/- Joined and thinned by a program of this session's own (wip/pack2.py) out of its texts (wip/ of its repo); parts were laid by its own program (wip/print-patch.py over the kit's print) out of the translation; Lean checks all. -/
set_option maxRecDepth 100000
set_option maxHeartbeats 8000000
namespace Go.Proofs.Ytnijhjbcjeohhaa.PQ
open Go.RowKit Go.Proofs.af.aO Go.Proofs.af.aU Go.Proofs.af.aV
attribute [local go_sem] gW gU jq jo fP fO gV gQ
set_option linter.unusedVariables false
set_option linter.unusedSimpArgs false
attribute [local go_sem high] Qr
def gy.f (k : Nat) (aW : Int) (aY : Int) (aZ : List Int) (cZ : Int) (dn : Int) (bV : List Int) : Option (Bool) := (nC.f aW aY aZ).bind fun IB => ((nC.f cZ dn bV).bind fun yJ => (if (IB.1 == yJ.1 && (IB.2 == yJ.2)) = true then ((dU.f k aZ bV).bind fun t164 => (some t164)) else (some false)))
def gy.T1 : Bool × List (List Nat × List Nat) := (true, [([], []), ([0], [0]), ([], []), ([2, 1], [2]), ([1, 3], [1, 3]), ([4, 3], [4]), ([5], [5]), ([6, 5], [5, 6]), ([5], [5]), ([8, 5], [5, 8]), ([7, 9, 5, 5], [5, 7, 9]), ([5, 10], [5, 10]), ([11, 10, 0, 1, 2, 3, 4, 5, 6, 7, 8, 9, 10, 11], [11])])
def gy.B1 : List Nat := [0, 1, 0, 7, 15, 31, 63, 127, 63, 319, 1023, 2047, 4095]
theorem gy.RD : nV .any (opsOf Try.f76 1) = gy.T1 := by kernel_rfl
theorem gy.LY : qA gy.T1.2 gy.B1 = true := by kernel_rfl
theorem gy.calls (k : Nat) (aW : Int) (aY : Int) (cu : Option Addr) (b_ : Nat) (aZ : List Int) (cZ : Int) (dn : Int) (gm : Option Addr) (gp : Nat) (bV : List Int) (r : Bool) (w : World) (jF : Kd.C (Kd.int .i64) w cu aZ.length aZ) (kF : aZ.length ≤ b_) (qh : Kd.C (Kd.int .i64) w gm bV.length bV) (rF : bV.length ≤ gp) (h : gy.f k aW aY aZ cZ dn bV = some r) :
 Calls Try.prog 76 #[.agg #[.int .i64 aW, .int .i64 aY, .slice cu aZ.length b_], .agg #[.int .i64 cZ, .int .i64 dn, .slice gm bV.length gp]] w fun e w' => e = .returned (.bool r) ∧ Below w.heap.size w w' := by
 have JL := Try.underlying31
 have pg := aj.mk jF
 have rM := aj.mk kF
 clear jF kF
 have BR := aj.mk qh
 have BU := aj.mk rF
 clear qh rF
 have HB := aj.mk (Below.refl w.heap.size w)
 have H : ((nC.f aW aY aZ).bind fun IB => ((nC.f cZ dn bV).bind fun yJ => (if (IB.1 == yJ.1 && (IB.2 == yJ.2)) = true then ((dU.f k aZ bV).bind fun t164 => (some t164)) else (some false)))) = some r := h
 clear h
 replace H := Option.bind_eq_some_iff.mp H
 obtain ⟨⟨t160, t161⟩, Cc, H⟩ := H
 replace H : ((nC.f cZ dn bV).bind fun yJ => (if (t160 == yJ.1 && (t161 == yJ.2)) = true then ((dU.f k aZ bV).bind fun t164 => (some t164)) else (some false))) = some r := H
 have A3 := aj.mk Cc
 clear Cc
 replace H := Option.bind_eq_some_iff.mp H
 obtain ⟨⟨t162, t163⟩, IY, H⟩ := H
 replace H : (if (t160 == t162 && (t161 == t163)) = true then ((dU.f k aZ bV).bind fun t164 => (some t164)) else (some false)) = some r := H
 have A4 := aj.mk IY
 clear IY
 by_cases c5 : (t160 == t162 && (t161 == t163)) = true
 · rw [if_pos c5] at H
   have y5 : (t160 == t162 && (t161 == t163)) = true := c5
   (try (have ad3 : decide (t160 = t162 && (t161 == t163)) = true := by simpa using c5))
   (try (have ad2 : (t160 == t162 && (t161 == t163)) = true := by simpa using c5))
   clear c5
   replace H := Option.bind_eq_some_iff.mp H
   obtain ⟨t164, Vr, H⟩ := H
   replace H : (some t164) = some r := H
   have A6 := aj.mk Vr
   clear Vr
   obtain rfl := Option.some.inj H
   go_enter Try.func76, Try.ntmps76
   try go_wp2_with (first | ((with_reducible refine dS (N := 2) rfl ?_); refine dM ?hg (N := 2) ?hd (cs := #[.int .i64 aW, .int .i64 aY, .slice cu aZ.length b_]) (t := 31) ?hr ?_; (case hd => rfl); (case hg => rfl); (case hr => first | (go_simp; done) | (go_simp; rfl)); intro jd hg w7 hbox hb; have bF := aj.mk (aP (by repeat (first | (with_reducible first | exact HB.out | apply ak | apply ah | apply au) | exact HB.out)) hb); have dZ := aj.mk (hbox); have fE := aj.mk ((by rw [hg]; exact (bu (by repeat (first | (with_reducible first | exact HB.out | apply ak | apply ah | apply au) | exact HB.out))) : w.heap.size ≤ jd)); have gu := aj.mk ((by rw [hg]; exact (bu (by repeat (first | (with_reducible first | exact HB.out | apply ak | apply ah | apply au) | exact HB.out))) : w.heap.size ≤ jd)); clear HB; have HB := bF; have dR := dZ; have aal := fE; have qx := gu; clear bF dZ fE gu; clear hb hbox hg) | ((with_reducible refine dS (N := 3) rfl ?_); refine dM ?hg (N := 3) ?hd (cs := #[.int .i64 cZ, .int .i64 dn, .slice gm bV.length gp]) (t := 31) ?hr ?_; (case hd => rfl); (case hg => rfl); (case hr => first | (go_simp; done) | (go_simp; rfl)); intro lI hg w8 hbox hb; have bF := aj.mk (bI (g := jd) (o := .cells #[.int .i64 aW, .int .i64 aY, .slice cu aZ.length b_] 31 (0, 0)) (by (with_reducible repeat (first | refine aG ?_ _ | refine aJ ?_ | refine aH ?_ _)); exact dR.out) hb); have dZ := aj.mk (aP (by repeat (first | (with_reducible first | exact HB.out | apply ak | apply ah | apply au | refine aB ?_ qx.out) | exact HB.out)) hb); have fE := aj.mk (hbox); have gu := aj.mk ((by rw [hg]; exact (bu (by repeat (first | (with_reducible first | exact HB.out | apply ak | apply ah | apply au | refine aB ?_ qx.out) | exact HB.out))) : w.heap.size ≤ lI)); have lD := aj.mk ((by rw [hg]; exact (bu (by repeat (first | (with_reducible first | exact HB.out | apply ak | apply ah | apply au | refine aB ?_ qx.out) | exact HB.out))) : w.heap.size ≤ lI)); have lS := aj.mk ((by rw [hg]; exact Nat.ne_of_lt (fC (g := jd) (o := .cells #[.int .i64 aW, .int .i64 aY, .slice cu aZ.length b_] 31 (0, 0)) (by (with_reducible repeat (first | refine aG ?_ _ | refine aJ ?_ | refine aH ?_ _)); exact dR.out)) : jd ≠ lI)); have mO := aj.mk ((by rw [hg]; exact Nat.ne_of_gt (fC (g := jd) (o := .cells #[.int .i64 aW, .int .i64 aY, .slice cu aZ.length b_] 31 (0, 0)) (by (with_reducible repeat (first | refine aG ?_ _ | refine aJ ?_ | refine aH ?_ _)); exact dR.out)) : lI ≠ jd)); clear dR; clear HB; have dR := bF; have HB := dZ; have eG := fE; have aak := gu; have BZ := lD; have OU := lS; have OT := mO; clear bF dZ fE gu lD lS mO; clear hb hbox hg))
   have bF := aj.mk (aJ dR.out)
   have dZ := aj.mk (aJ eG.out)
   have fE := aj.mk (au HB.out)
   clear dR
   clear eG
   clear HB
   have dR := bF
   have eG := dZ
   have HB := fE
   clear bF dZ fE
   refine Ee (n := 13) (S := fun w' => w'.cell? ⟨jd, 0, none⟩ = some (.int .i64 aW) ∧ w'.cell? ⟨jd, 1, none⟩ = some (.int .i64 aY) ∧ w'.cell? ⟨jd, 2, none⟩ = some (.slice cu aZ.length b_) ∧ w'.cell? ⟨lI, 0, none⟩ = some (.int .i64 cZ) ∧ w'.cell? ⟨lI, 1, none⟩ = some (.int .i64 dn) ∧ w'.cell? ⟨lI, 2, none⟩ = some (.slice gm bV.length gp)) (ds := []) #[false, false, false, false, false, false, false, false, false, false, false, false, false] (by kernel_rfl) rfl rfl ⟨(ay dR.out 0).trans rfl, (ay dR.out 1).trans rfl, (ay dR.out 2).trans rfl, (ay eG.out 0).trans rfl, (ay eG.out 1).trans rfl, (ay eG.out 2).trans rfl⟩ (fun hHeld => ?_); refine uz gy.RD gy.LY (fun jQ IQ => ?_)
   generalize w8.drew = w9 at dR eG HB hHeld ⊢
   refine oN (i := 0) (N := some 5) (v := ?_) (a' := ?_) #[true, false, false, false, false, false, false, false, false, false, false, false, false] rfl rfl (gJ jQ.out IQ.out (by kernel_rfl)) (fun _ _ _ h => h) (Or.inl ⟨by rfl, ?_⟩) hHeld ?_ ?_
   rotate_left
   · rintro w' ⟨s0, s1, s2, s3, s4, s5⟩
     go_simp
     with_reducible rfl
   rotate_left
   · simp only [Act.put, List.setIfInBounds_toArray, List.set_cons_zero, List.set_cons_succ, bY, bZ]
     rfl
   refine oN (i := 2) (N := some 7) (v := ?_) (a' := ?_) #[true, false, true, false, false, false, false, false, false, false, false, false, false] rfl rfl (gJ jQ.out IQ.out (by kernel_rfl)) (fun _ _ _ h => h) (Or.inl ⟨by rfl, ?_⟩) hHeld ?_ ?_
   rotate_left
   · rintro w' ⟨s0, s1, s2, s3, s4, s5⟩
     go_simp
     with_reducible rfl
   rotate_left
   · simp only [Act.put, List.setIfInBounds_toArray, List.set_cons_zero, List.set_cons_succ, bY, bZ]
     rfl
   refine Ad (i := 1) (N := some 6) #[true, true, true, false, false, false, false, false, false, false, false, false, false] rfl rfl (ni jQ.out (by kernel_rfl)) (by decide) (fun K hK => ?_)
   refine uZ Try.func107 (by kernel_rfl) rfl #[.agg #[.int .i64 aW, .int .i64 aY, .slice cu aZ.length b_]] (by rfl) rfl rfl (by (try simp only [List.map_toArray, List.map_cons, List.map_nil]); first | done | rfl | (simp only [List.length_drop, List.length_take]; rfl)) ?_
   with_reducible refine (nC.calls aW aY _ _ aZ t160 t161 _ ?f_ ?fZ A3.out).mono ?_
   (case f_ => repeat (first | exact (Kd.gz pg.out HB.out) | (with_reducible refine Kd.jc ?_ _) | (with_reducible refine Kd.iZ ?_ _) | (with_reducible refine Kd.kS ?_)))
   (case fZ => exact rM.out)
   rintro e w10 ⟨rfl, hb⟩
   refine ⟨_, rfl, ?_⟩
   have bF := aj.mk (bI (g := jd) (o := .cells #[.int .i64 aW, .int .i64 aY, .slice cu aZ.length b_] 31 (0, 0)) (by (with_reducible repeat (first | refine aG ?_ _ | refine aJ ?_ | refine aH ?_ _)); exact dR.out) hb)
   have dZ := aj.mk (bI (g := lI) (o := .cells #[.int .i64 cZ, .int .i64 dn, .slice gm bV.length gp] 31 (0, 0)) (by (with_reducible repeat (first | refine aG ?_ _ | refine aJ ?_ | refine aH ?_ _)); exact eG.out) hb)
   have fE := aj.mk (aP (by repeat (first | (with_reducible first | exact HB.out | apply ak | apply ah | apply au | refine aB ?_ qx.out | refine aB ?_ BZ.out) | exact HB.out)) hb)
   clear dR
   clear eG
   clear HB
   have dR := bF
   have eG := dZ
   have HB := fE
   clear bF dZ fE
   (try clear hb)
   (try clear hb2)
   (try clear hk)
   (try clear hi)
   refine hK.out _ _ ⟨(ay dR.out 0).trans rfl, (ay dR.out 1).trans rfl, (ay dR.out 2).trans rfl, (ay eG.out 0).trans rfl, (ay eG.out 1).trans rfl, (ay eG.out 2).trans rfl⟩ (fun hHeld => ?_)
   clear hK K
   refine uT (a' := ?_) ?_ ?_
   rotate_left
   · show Act.put _ (some 6) _ = _
     simp only [Act.put, List.setIfInBounds_toArray, List.set_cons_zero, List.set_cons_succ, bY, bZ]
     rfl
   refine Ad (i := 3) (N := some 8) #[true, true, true, true, false, false, false, false, false, false, false, false, false] rfl rfl (ni jQ.out (by kernel_rfl)) (by decide) (fun K hK => ?_)
   refine uZ Try.func107 (by kernel_rfl) rfl #[.agg #[.int .i64 cZ, .int .i64 dn, .slice gm bV.length gp]] (by rfl) rfl rfl (by (try simp only [List.map_toArray, List.map_cons, List.map_nil]); first | done | rfl | (simp only [List.length_drop, List.length_take]; rfl)) ?_
   with_reducible refine (nC.calls cZ dn _ _ bV t162 t163 _ ?f_ ?fZ A4.out).mono ?_
   (case f_ => repeat (first | exact (Kd.gz BR.out HB.out) | (with_reducible refine Kd.jc ?_ _) | (with_reducible refine Kd.iZ ?_ _) | (with_reducible refine Kd.kS ?_)))
   (case fZ => exact BU.out)
   rintro e Pe ⟨rfl, hb⟩
   refine ⟨_, rfl, ?_⟩
   have bF := aj.mk (bI (g := jd) (o := .cells #[.int .i64 aW, .int .i64 aY, .slice cu aZ.length b_] 31 (0, 0)) (by (with_reducible repeat (first | refine aG ?_ _ | refine aJ ?_ | refine aH ?_ _)); exact dR.out) hb)
   have dZ := aj.mk (bI (g := lI) (o := .cells #[.int .i64 cZ, .int .i64 dn, .slice gm bV.length gp] 31 (0, 0)) (by (with_reducible repeat (first | refine aG ?_ _ | refine aJ ?_ | refine aH ?_ _)); exact eG.out) hb)
   have fE := aj.mk (aP (by repeat (first | (with_reducible first | exact HB.out | apply ak | apply ah | apply au | refine aB ?_ qx.out | refine aB ?_ BZ.out) | exact HB.out)) hb)
   clear dR
   clear eG
   clear HB
   have dR := bF
   have eG := dZ
   have HB := fE
   clear bF dZ fE
   (try clear hb)
   (try clear hb2)
   (try clear hk)
   (try clear hi)
   refine hK.out _ _ ⟨(ay dR.out 0).trans rfl, (ay dR.out 1).trans rfl, (ay dR.out 2).trans rfl, (ay eG.out 0).trans rfl, (ay eG.out 1).trans rfl, (ay eG.out 2).trans rfl⟩ (fun hHeld => ?_)
   clear hK K
   refine uT (a' := ?_) ?_ ?_
   rotate_left
   · show Act.put _ (some 8) _ = _
     simp only [Act.put, List.setIfInBounds_toArray, List.set_cons_zero, List.set_cons_succ, bY, bZ]
     rfl
   refine fD (i := 4) (N := some 9) (v := ?_) (a' := ?_) #[true, true, true, true, true, false, false, false, false, false, false, false, false] rfl rfl (dP jQ.out (by kernel_rfl)) (fun _ _ _ h => h) (Or.inl ⟨by rfl, ?_⟩) ?_ ?_
   rotate_left
   · intro w'
     go_simp
     with_reducible rfl
   rotate_left
   · simp only [Act.put, List.setIfInBounds_toArray, List.set_cons_zero, List.set_cons_succ, bY, bZ]
     rfl
   refine fD (i := 5) (N := some 10) (v := ?_) (a' := ?_) #[true, true, true, true, true, true, false, false, false, false, false, false, false] rfl rfl (dP jQ.out (by kernel_rfl)) (fun _ _ _ h => h) (Or.inl ⟨by rfl, ?_⟩) ?_ ?_
   rotate_left
   · intro w'
     go_simp
     with_reducible rfl
   rotate_left
   · simp only [Act.put, List.setIfInBounds_toArray, List.set_cons_zero, List.set_cons_succ, bY, bZ]
     rfl
   refine fD (i := 6) (N := some 11) (v := ?_) (a' := ?_) #[true, true, true, true, true, true, true, false, false, false, false, false, false] rfl rfl (dP jQ.out (by kernel_rfl)) (fun _ _ _ h => h) (Or.inl ⟨by rfl, ?_⟩) ?_ ?_
   rotate_left
   · intro w'
     go_simp
     with_reducible rfl
   rotate_left
   · simp only [Act.put, List.setIfInBounds_toArray, List.set_cons_zero, List.set_cons_succ, bY, bZ]
     rfl
   refine fD (i := 8) (N := some 13) (v := ?_) (a' := ?_) #[true, true, true, true, true, true, true, false, true, false, false, false, false] rfl rfl (dP jQ.out (by kernel_rfl)) (fun _ _ _ h => h) (Or.inl ⟨by rfl, ?_⟩) ?_ ?_
   rotate_left
   · intro w'
     go_simp
     with_reducible rfl
   rotate_left
   · simp only [Act.put, List.setIfInBounds_toArray, List.set_cons_zero, List.set_cons_succ, bY, bZ]
     rfl
   refine oN (i := 7) (N := some 12) (v := ?_) (a' := ?_) #[true, true, true, true, true, true, true, true, true, false, false, false, false] rfl rfl (gJ jQ.out IQ.out (by kernel_rfl)) (fun _ _ _ h => h) (Or.inl ⟨by rfl, ?_⟩) hHeld ?_ ?_
   rotate_left
   · rintro w' ⟨s0, s1, s2, s3, s4, s5⟩
     go_simp
     with_reducible rfl
   rotate_left
   · simp only [Act.put, List.setIfInBounds_toArray, List.set_cons_zero, List.set_cons_succ, bY, bZ]
     rfl
   refine oN (i := 9) (N := some 14) (v := ?_) (a' := ?_) #[true, true, true, true, true, true, true, true, true, true, false, false, false] rfl rfl (gJ jQ.out IQ.out (by kernel_rfl)) (fun _ _ _ h => h) (Or.inl ⟨by rfl, ?_⟩) hHeld ?_ ?_
   rotate_left
   · rintro w' ⟨s0, s1, s2, s3, s4, s5⟩
     go_simp
     with_reducible rfl
   rotate_left
   · simp only [Act.put, List.setIfInBounds_toArray, List.set_cons_zero, List.set_cons_succ, bY, bZ]
     rfl
   refine Ad (i := 10) (N := some 15) #[true, true, true, true, true, true, true, true, true, true, true, false, false] rfl rfl (ni jQ.out (by kernel_rfl)) (by decide) (fun K hK => ?_)
   refine uZ Try.func108 (by kernel_rfl) rfl #[.slice cu aZ.length b_, .slice gm bV.length gp] (by rfl) rfl rfl (by (try simp only [List.map_toArray, List.map_cons, List.map_nil]); first | done | rfl | (simp only [List.length_drop, List.length_take]; rfl)) ?_
   with_reducible refine (dU.calls k _ _ aZ _ _ bV t164 _ ?f_ ?fZ ?wz ?Gz A6.out).mono ?_
   (case f_ => repeat (first | exact (Kd.gz pg.out HB.out) | (with_reducible refine Kd.jc ?_ _) | (with_reducible refine Kd.iZ ?_ _) | (with_reducible refine Kd.kS ?_)))
   (case fZ => exact rM.out)
   (case wz => repeat (first | exact (Kd.gz BR.out HB.out) | (with_reducible refine Kd.jc ?_ _) | (with_reducible refine Kd.iZ ?_ _) | (with_reducible refine Kd.kS ?_)))
   (case Gz => exact BU.out)
   rintro e w' ⟨rfl, ⟨nd, rfl⟩⟩
   refine ⟨_, rfl, ?_⟩
   refine hK.out _ _ ⟨(ay dR.out 0).trans rfl, (ay dR.out 1).trans rfl, (ay dR.out 2).trans rfl, (ay eG.out 0).trans rfl, (ay eG.out 1).trans rfl, (ay eG.out 2).trans rfl⟩ (fun hHeld => ?_)
   clear hK K
   refine uT (a' := ?_) ?_ ?_
   rotate_left
   · show Act.put _ (some 15) _ = _
     simp only [Act.put, List.setIfInBounds_toArray, List.set_cons_zero, List.set_cons_succ, bY, bZ]
     rfl
   refine fD (i := 11) (N := some 16) (v := ?_) (a' := ?_) #[true, true, true, true, true, true, true, true, true, true, true, true, false] rfl rfl (dP jQ.out (by kernel_rfl)) (fun _ _ _ h => h) (Or.inl ⟨by rfl, ?_⟩) ?_ ?_
   rotate_left
   · intro w'
     go_simp
     with_reducible rfl
   rotate_left
   · simp only [Act.put, List.setIfInBounds_toArray, List.set_cons_zero, List.set_cons_succ, bY, bZ]
     rfl
   refine fD (i := 12) (N := some 4) (v := ?_) (a' := ?_) #[true, true, true, true, true, true, true, true, true, true, true, true, true] rfl rfl (dP jQ.out (by kernel_rfl)) (fun _ _ _ h => h) (Or.inl ⟨by rfl, ?_⟩) ?_ ?_
   rotate_left
   · intro w'
     go_simp
     with_reducible rfl
   rotate_left
   · simp only [Act.put, List.setIfInBounds_toArray, List.set_cons_zero, List.set_cons_succ, bY, bZ]
     rfl
   refine LM (zD jQ.out (by kernel_rfl)) ?_
   try go_wp2
   go_ret
   exact ⟨by first | rfl | (simp [aN, aK] <;> rfl) | (simp [*, aN, aK] <;> rfl), by repeat (first | (with_reducible first | exact HB.out | apply ak | apply ah | apply au | refine aB ?_ qx.out | refine aB ?_ BZ.out) | exact HB.out)⟩
 · rw [if_neg c5] at H
   have y5 : (t160 == t162 && (t161 == t163)) = false := by simpa using c5
   (try (have ad3 : decide (t160 = t162 && (t161 == t163)) = false := by simpa using c5))
   (try (have ad2 : (t160 == t162 && (t161 == t163)) = false := by simpa using c5))
   (try (have aii : ¬ (t160 = t162 && (t161 == t163)) := by simpa using c5))
   clear c5
   obtain rfl := Option.some.inj H
   go_enter Try.func76, Try.ntmps76
   try go_wp2_with (first | ((with_reducible refine dS (N := 2) rfl ?_); refine dM ?hg (N := 2) ?hd (cs := #[.int .i64 aW, .int .i64 aY, .slice cu aZ.length b_]) (t := 31) ?hr ?_; (case hd => rfl); (case hg => rfl); (case hr => first | (go_simp; done) | (go_simp; rfl)); intro jd hg w12 hbox hb; have bF := aj.mk (aP (by repeat (first | (with_reducible first | exact HB.out | apply ak | apply ah | apply au) | exact HB.out)) hb); have dZ := aj.mk (hbox); have fE := aj.mk ((by rw [hg]; exact (bu (by repeat (first | (with_reducible first | exact HB.out | apply ak | apply ah | apply au) | exact HB.out))) : w.heap.size ≤ jd)); have gu := aj.mk ((by rw [hg]; exact (bu (by repeat (first | (with_reducible first | exact HB.out | apply ak | apply ah | apply au) | exact HB.out))) : w.heap.size ≤ jd)); clear HB; have HB := bF; have dR := dZ; have aal := fE; have qx := gu; clear bF dZ fE gu; clear hb hbox hg) | ((with_reducible refine dS (N := 3) rfl ?_); refine dM ?hg (N := 3) ?hd (cs := #[.int .i64 cZ, .int .i64 dn, .slice gm bV.length gp]) (t := 31) ?hr ?_; (case hd => rfl); (case hg => rfl); (case hr => first | (go_simp; done) | (go_simp; rfl)); intro lI hg Pj hbox hb; have bF := aj.mk (bI (g := jd) (o := .cells #[.int .i64 aW, .int .i64 aY, .slice cu aZ.length b_] 31 (0, 0)) (by (with_reducible repeat (first | refine aG ?_ _ | refine aJ ?_ | refine aH ?_ _)); exact dR.out) hb); have dZ := aj.mk (aP (by repeat (first | (with_reducible first | exact HB.out | apply ak | apply ah | apply au | refine aB ?_ qx.out) | exact HB.out)) hb); have fE := aj.mk (hbox); have gu := aj.mk ((by rw [hg]; exact (bu (by repeat (first | (with_reducible first | exact HB.out | apply ak | apply ah | apply au | refine aB ?_ qx.out) | exact HB.out))) : w.heap.size ≤ lI)); have lD := aj.mk ((by rw [hg]; exact (bu (by repeat (first | (with_reducible first | exact HB.out | apply ak | apply ah | apply au | refine aB ?_ qx.out) | exact HB.out))) : w.heap.size ≤ lI)); have lS := aj.mk ((by rw [hg]; exact Nat.ne_of_lt (fC (g := jd) (o := .cells #[.int .i64 aW, .int .i64 aY, .slice cu aZ.length b_] 31 (0, 0)) (by (with_reducible repeat (first | refine aG ?_ _ | refine aJ ?_ | refine aH ?_ _)); exact dR.out)) : jd ≠ lI)); have mO := aj.mk ((by rw [hg]; exact Nat.ne_of_gt (fC (g := jd) (o := .cells #[.int .i64 aW, .int .i64 aY, .slice cu aZ.length b_] 31 (0, 0)) (by (with_reducible repeat (first | refine aG ?_ _ | refine aJ ?_ | refine aH ?_ _)); exact dR.out)) : lI ≠ jd)); clear dR; clear HB; have dR := bF; have HB := dZ; have eG := fE; have aak := gu; have BZ := lD; have OU := lS; have OT := mO; clear bF dZ fE gu lD lS mO; clear hb hbox hg))
   have bF := aj.mk (aJ dR.out)
   have dZ := aj.mk (aJ eG.out)
   have fE := aj.mk (au HB.out)
   clear dR
   clear eG
   clear HB
   have dR := bF
   have eG := dZ
   have HB := fE
   clear bF dZ fE
   refine Ee (n := 13) (S := fun w' => w'.cell? ⟨jd, 0, none⟩ = some (.int .i64 aW) ∧ w'.cell? ⟨jd, 1, none⟩ = some (.int .i64 aY) ∧ w'.cell? ⟨jd, 2, none⟩ = some (.slice cu aZ.length b_) ∧ w'.cell? ⟨lI, 0, none⟩ = some (.int .i64 cZ) ∧ w'.cell? ⟨lI, 1, none⟩ = some (.int .i64 dn) ∧ w'.cell? ⟨lI, 2, none⟩ = some (.slice gm bV.length gp)) (ds := []) #[false, false, false, false, false, false, false, false, false, false, false, false, false] (by kernel_rfl) rfl rfl ⟨(ay dR.out 0).trans rfl, (ay dR.out 1).trans rfl, (ay dR.out 2).trans rfl, (ay eG.out 0).trans rfl, (ay eG.out 1).trans rfl, (ay eG.out 2).trans rfl⟩ (fun hHeld => ?_); refine uz gy.RD gy.LY (fun jQ IQ => ?_)
   generalize Pj.drew = X_ at dR eG HB hHeld ⊢
   refine oN (i := 0) (N := some 5) (v := ?_) (a' := ?_) #[true, false, false, false, false, false, false, false, false, false, false, false, false] rfl rfl (gJ jQ.out IQ.out (by kernel_rfl)) (fun _ _ _ h => h) (Or.inl ⟨by rfl, ?_⟩) hHeld ?_ ?_
   rotate_left
   · rintro w' ⟨s0, s1, s2, s3, s4, s5⟩
     go_simp
     with_reducible rfl
   rotate_left
   · simp only [Act.put, List.setIfInBounds_toArray, List.set_cons_zero, List.set_cons_succ, bY, bZ]
     rfl
   refine oN (i := 2) (N := some 7) (v := ?_) (a' := ?_) #[true, false, true, false, false, false, false, false, false, false, false, false, false] rfl rfl (gJ jQ.out IQ.out (by kernel_rfl)) (fun _ _ _ h => h) (Or.inl ⟨by rfl, ?_⟩) hHeld ?_ ?_
   rotate_left
   · rintro w' ⟨s0, s1, s2, s3, s4, s5⟩
     go_simp
     with_reducible rfl
   rotate_left
   · simp only [Act.put, List.setIfInBounds_toArray, List.set_cons_zero, List.set_cons_succ, bY, bZ]
     rfl
   refine Ad (i := 1) (N := some 6) #[true, true, true, false, false, false, false, false, false, false, false, false, false] rfl rfl (ni jQ.out (by kernel_rfl)) (by decide) (fun K hK => ?_)
   refine uZ Try.func107 (by kernel_rfl) rfl #[.agg #[.int .i64 aW, .int .i64 aY, .slice cu aZ.length b_]] (by rfl) rfl rfl (by (try simp only [List.map_toArray, List.map_cons, List.map_nil]); first | done | rfl | (simp only [List.length_drop, List.length_take]; rfl)) ?_
   with_reducible refine (nC.calls aW aY _ _ aZ t160 t161 _ ?f_ ?fZ A3.out).mono ?_
   (case f_ => repeat (first | exact (Kd.gz pg.out HB.out) | (with_reducible refine Kd.jc ?_ _) | (with_reducible refine Kd.iZ ?_ _) | (with_reducible refine Kd.kS ?_)))
   (case fZ => exact rM.out)
   rintro e w15 ⟨rfl, hb⟩
   refine ⟨_, rfl, ?_⟩
   have bF := aj.mk (bI (g := jd) (o := .cells #[.int .i64 aW, .int .i64 aY, .slice cu aZ.length b_] 31 (0, 0)) (by (with_reducible repeat (first | refine aG ?_ _ | refine aJ ?_ | refine aH ?_ _)); exact dR.out) hb)
   have dZ := aj.mk (bI (g := lI) (o := .cells #[.int .i64 cZ, .int .i64 dn, .slice gm bV.length gp] 31 (0, 0)) (by (with_reducible repeat (first | refine aG ?_ _ | refine aJ ?_ | refine aH ?_ _)); exact eG.out) hb)
   have fE := aj.mk (aP (by repeat (first | (with_reducible first | exact HB.out | apply ak | apply ah | apply au | refine aB ?_ qx.out | refine aB ?_ BZ.out) | exact HB.out)) hb)
   clear dR
   clear eG
   clear HB
   have dR := bF
   have eG := dZ
   have HB := fE
   clear bF dZ fE
   (try clear hb)
   (try clear hb2)
   (try clear hk)
   (try clear hi)
   refine hK.out _ _ ⟨(ay dR.out 0).trans rfl, (ay dR.out 1).trans rfl, (ay dR.out 2).trans rfl, (ay eG.out 0).trans rfl, (ay eG.out 1).trans rfl, (ay eG.out 2).trans rfl⟩ (fun hHeld => ?_)
   clear hK K
   refine uT (a' := ?_) ?_ ?_
   rotate_left
   · show Act.put _ (some 6) _ = _
     simp only [Act.put, List.setIfInBounds_toArray, List.set_cons_zero, List.set_cons_succ, bY, bZ]
     rfl
   refine Ad (i := 3) (N := some 8) #[true, true, true, true, false, false, false, false, false, false, false, false, false] rfl rfl (ni jQ.out (by kernel_rfl)) (by decide) (fun K hK => ?_)
   refine uZ Try.func107 (by kernel_rfl) rfl #[.agg #[.int .i64 cZ, .int .i64 dn, .slice gm bV.length gp]] (by rfl) rfl rfl (by (try simp only [List.map_toArray, List.map_cons, List.map_nil]); first | done | rfl | (simp only [List.length_drop, List.length_take]; rfl)) ?_
   with_reducible refine (nC.calls cZ dn _ _ bV t162 t163 _ ?f_ ?fZ A4.out).mono ?_
   (case f_ => repeat (first | exact (Kd.gz BR.out HB.out) | (with_reducible refine Kd.jc ?_ _) | (with_reducible refine Kd.iZ ?_ _) | (with_reducible refine Kd.kS ?_)))
   (case fZ => exact BU.out)
   rintro e w16 ⟨rfl, hb⟩
   refine ⟨_, rfl, ?_⟩
   have bF := aj.mk (bI (g := jd) (o := .cells #[.int .i64 aW, .int .i64 aY, .slice cu aZ.length b_] 31 (0, 0)) (by (with_reducible repeat (first | refine aG ?_ _ | refine aJ ?_ | refine aH ?_ _)); exact dR.out) hb)
   have dZ := aj.mk (bI (g := lI) (o := .cells #[.int .i64 cZ, .int .i64 dn, .slice gm bV.length gp] 31 (0, 0)) (by (with_reducible repeat (first | refine aG ?_ _ | refine aJ ?_ | refine aH ?_ _)); exact eG.out) hb)
   have fE := aj.mk (aP (by repeat (first | (with_reducible first | exact HB.out | apply ak | apply ah | apply au | refine aB ?_ qx.out | refine aB ?_ BZ.out) | exact HB.out)) hb)
   clear dR
   clear eG
   clear HB
   have dR := bF
   have eG := dZ
   have HB := fE
   clear bF dZ fE
   (try clear hb)
   (try clear hb2)
   (try clear hk)
   (try clear hi)
   refine hK.out _ _ ⟨(ay dR.out 0).trans rfl, (ay dR.out 1).trans rfl, (ay dR.out 2).trans rfl, (ay eG.out 0).trans rfl, (ay eG.out 1).trans rfl, (ay eG.out 2).trans rfl⟩ (fun hHeld => ?_)
   clear hK K
   refine uT (a' := ?_) ?_ ?_
   rotate_left
   · show Act.put _ (some 8) _ = _
     simp only [Act.put, List.setIfInBounds_toArray, List.set_cons_zero, List.set_cons_succ, bY, bZ]
     rfl
   refine fD (i := 4) (N := some 9) (v := ?_) (a' := ?_) #[true, true, true, true, true, false, false, false, false, false, false, false, false] rfl rfl (dP jQ.out (by kernel_rfl)) (fun _ _ _ h => h) (Or.inl ⟨by rfl, ?_⟩) ?_ ?_
   rotate_left
   · intro w'
     go_simp
     with_reducible rfl
   rotate_left
   · simp only [Act.put, List.setIfInBounds_toArray, List.set_cons_zero, List.set_cons_succ, bY, bZ]
     rfl
   refine fD (i := 5) (N := some 10) (v := ?_) (a' := ?_) #[true, true, true, true, true, true, false, false, false, false, false, false, false] rfl rfl (dP jQ.out (by kernel_rfl)) (fun _ _ _ h => h) (Or.inl ⟨by rfl, ?_⟩) ?_ ?_
   rotate_left
   · intro w'
     go_simp
     with_reducible rfl
   rotate_left
   · simp only [Act.put, List.setIfInBounds_toArray, List.set_cons_zero, List.set_cons_succ, bY, bZ]
     rfl
   refine fD (i := 6) (N := some 11) (v := undef) (a' := ?_) #[true, true, true, true, true, true, true, false, false, false, false, false, false] rfl rfl (dP jQ.out (by kernel_rfl)) (fun _ _ _ h => h) (Or.inr ⟨by rfl, rfl⟩) ?_ ?_
   rotate_left
   · simp only [Act.put, List.setIfInBounds_toArray, List.set_cons_zero, List.set_cons_succ, bY, bZ]
     rfl
   refine fD (i := 7) (N := some 12) (v := undef) (a' := ?_) #[true, true, true, true, true, true, true, true, false, false, false, false, false] rfl rfl (dP jQ.out (by kernel_rfl)) (fun _ _ _ h => h) (Or.inr ⟨by rfl, rfl⟩) ?_ ?_
   rotate_left
   · simp only [Act.put, List.setIfInBounds_toArray, List.set_cons_zero, List.set_cons_succ, bY, bZ]
     rfl
   refine fD (i := 8) (N := some 13) (v := undef) (a' := ?_) #[true, true, true, true, true, true, true, true, true, false, false, false, false] rfl rfl (dP jQ.out (by kernel_rfl)) (fun _ _ _ h => h) (Or.inr ⟨by rfl, rfl⟩) ?_ ?_
   rotate_left
   · simp only [Act.put, List.setIfInBounds_toArray, List.set_cons_zero, List.set_cons_succ, bY, bZ]
     rfl
   refine fD (i := 9) (N := some 14) (v := undef) (a' := ?_) #[true, true, true, true, true, true, true, true, true, true, false, false, false] rfl rfl (dP jQ.out (by kernel_rfl)) (fun _ _ _ h => h) (Or.inr ⟨by rfl, rfl⟩) ?_ ?_
   rotate_left
   · simp only [Act.put, List.setIfInBounds_toArray, List.set_cons_zero, List.set_cons_succ, bY, bZ]
     rfl
   refine fD (i := 10) (N := some 15) (v := undef) (a' := ?_) #[true, true, true, true, true, true, true, true, true, true, true, false, false] rfl rfl (dP jQ.out (by kernel_rfl)) (fun _ _ _ h => h) (Or.inr ⟨by rfl, rfl⟩) ?_ ?_
   rotate_left
   · simp only [Act.put, List.setIfInBounds_toArray, List.set_cons_zero, List.set_cons_succ, bY, bZ]
     rfl
   refine fD (i := 11) (N := some 16) (v := ?_) (a' := ?_) #[true, true, true, true, true, true, true, true, true, true, true, true, false] rfl rfl (dP jQ.out (by kernel_rfl)) (fun _ _ _ h => h) (Or.inl ⟨by rfl, ?_⟩) ?_ ?_
   rotate_left
   · intro w'
     go_simp
     with_reducible rfl
   rotate_left
   · simp only [Act.put, List.setIfInBounds_toArray, List.set_cons_zero, List.set_cons_succ, bY, bZ]
     rfl
   refine fD (i := 12) (N := some 4) (v := ?_) (a' := ?_) #[true, true, true, true, true, true, true, true, true, true, true, true, true] rfl rfl (dP jQ.out (by kernel_rfl)) (fun _ _ _ h => h) (Or.inl ⟨by rfl, ?_⟩) ?_ ?_
   rotate_left
   · intro w'
     go_simp
     with_reducible rfl
   rotate_left
   · simp only [Act.put, List.setIfInBounds_toArray, List.set_cons_zero, List.set_cons_succ, bY, bZ]
     rfl
   refine LM (zD jQ.out (by kernel_rfl)) ?_
   try go_wp2
   go_ret
   exact ⟨by first | rfl | (simp [aN, aK] <;> rfl) | (simp [*, aN, aK] <;> rfl), by repeat (first | (with_reducible first | exact HB.out | apply ak | apply ah | apply au | refine aB ?_ qx.out | refine aB ?_ BZ.out) | exact HB.out)⟩
def bits_Mul.f (a0 : Int) (a1 : Int) : Option (Int × Int) := (bits_Mul64.f a0 a1).bind fun IA => (some (IA.1, IA.2))
theorem bits_Mul.calls (a0 : Int) (a1 : Int) (r1 : Int) (r2 : Int) (w : World) (h : bits_Mul.f a0 a1 = some (r1, r2)) :
 Calls Try.prog 131 #[.int .u64 a0, .int .u64 a1] w fun e w' => e = .returned (.tuple #[.int .u64 r1, .int .u64 r2]) ∧ bH w w' := by
 have H : ((bits_Mul64.f a0 a1).bind fun IA => (some (IA.1, IA.2))) = some (r1, r2) := h
 clear h
 replace H := Option.bind_eq_some_iff.mp H
 obtain ⟨⟨t165, t166⟩, Cc, H⟩ := H
 replace H : (some (t165, t166)) = some (r1, r2) := H
 have A3 := aj.mk Cc
 clear Cc
 simp only [Option.some.injEq, Prod.mk.injEq] at H
 obtain ⟨rfl, rfl⟩ := H
 go_enter Try.func131, Try.ntmps131
 go_wp2_with (first | ((with_reducible refine aF (f := 96) rfl ?_); refine a_ (some 25) rfl rfl Try.func96 (by kernel_rfl) rfl #[.int .u64 a0, .int .u64 a1] rfl (by (try simp only [List.map_toArray, List.map_cons, List.map_nil]); first | done | rfl | (simp only [List.length_drop, List.length_take]; rfl)) ?_; (with_reducible refine (bits_Mul64.calls a0 a1 t165 t166 _ A3.out).mono ?_); rintro e w' ⟨rfl, ⟨nd, rfl⟩⟩; refine ⟨_, rfl, ?_⟩))
 go_ret2
 exact ⟨by first | rfl | (simp; done) | (simp [*]; done), by repeat (first | exact bH.refl _ | apply bH.step)⟩
def lK.f  : Option (Int × Int × Int × Int × Int × Int) := some (2097152, 16777216, 262144, 16777216, 16777216, 268435456)
theorem lK.calls  (r1 : Int) (r2 : Int) (r3 : Int) (r4 : Int) (r5 : Int) (r6 : Int) (w : World) (h : lK.f  = some (r1, r2, r3, r4, r5, r6)) :
 Calls Try.prog 34 #[] w fun e w' => e = .returned (.agg #[.int .i64 r1, .int .i64 r2, .int .i64 r3, .int .i64 r4, .int .i64 r5, .int .i64 r6]) ∧ Below w.heap.size w w' := by
 have VY := Try.underlying24
 have HB := aj.mk (Below.refl w.heap.size w)
 have H : (some (2097152, 16777216, 262144, 16777216, 16777216, 268435456)) = some (r1, r2, r3, r4, r5, r6) := h
 clear h
 simp only [Option.some.injEq, Prod.mk.injEq] at H
 obtain ⟨rfl, rfl, rfl, rfl, rfl, rfl⟩ := H
 go_enter Try.func34, Try.ntmps34
 go_wp2_with (first | ((with_reducible refine dS (N := 0) rfl ?_); refine dM ?hg (N := 0) ?hd (cs := #[.int .i64 0, .int .i64 0, .int .i64 0, .int .i64 0, .int .i64 0, .int .i64 0]) (t := 24) ?hr ?_; (case hd => rfl); (case hg => rfl); (case hr => first | (go_simp; done) | (go_simp; rfl)); intro w_ hg w1 hbox hb; have bF := aj.mk (aP (by repeat (first | (with_reducible first | exact HB.out | apply ak | apply ah | apply au) | exact HB.out)) hb); have dZ := aj.mk (hbox); have fE := aj.mk ((by rw [hg]; exact (bu (by repeat (first | (with_reducible first | exact HB.out | apply ak | apply ah | apply au) | exact HB.out))) : w.heap.size ≤ w_)); have gu := aj.mk ((by rw [hg]; exact (bu (by repeat (first | (with_reducible first | exact HB.out | apply ak | apply ah | apply au) | exact HB.out))) : w.heap.size ≤ w_)); clear HB; have HB := bF; have qy := dZ; have agC := fE; have aam := gu; clear bF dZ fE gu; clear hb hbox hg; have adK : w1.cell? ⟨w_, 0, none⟩ = some (.int .i64 0) := (ay qy.out 0).trans rfl; have adJ : w1.cell? ⟨w_, 1, none⟩ = some (.int .i64 0) := (ay qy.out 1).trans rfl; have adI : w1.cell? ⟨w_, 2, none⟩ = some (.int .i64 0) := (ay qy.out 2).trans rfl; have adH : w1.cell? ⟨w_, 3, none⟩ = some (.int .i64 0) := (ay qy.out 3).trans rfl; have adG : w1.cell? ⟨w_, 4, none⟩ = some (.int .i64 0) := (ay qy.out 4).trans rfl; have adF : w1.cell? ⟨w_, 5, none⟩ = some (.int .i64 0) := (ay qy.out 5).trans rfl; have adC := az qy.out 0; have adB := az qy.out 1; have adA := az qy.out 2; have adz := az qy.out 3; have ady := az qy.out 4; have adx := az qy.out 5))
 refine bodyPost_ret (results_cell_row rfl _ _ w_ 24 #[.int .i64 2097152, .int .i64 16777216, .int .i64 262144, .int .i64 16777216, .int .i64 16777216, .int .i64 268435456] (0, 0) _ rfl (by (with_reducible repeat (first | refine aG ?_ _ | refine aJ ?_ | refine aH ?_ _)); refine fB (cs := #[.int .i64 2097152, .int .i64 16777216, .int .i64 262144, .int .i64 16777216, .int .i64 16777216, .int .i64 0]) ?_ 5 _ rfl; (with_reducible repeat (first | refine aG ?_ _ | refine aJ ?_ | refine aH ?_ _)); refine fB (cs := #[.int .i64 2097152, .int .i64 16777216, .int .i64 262144, .int .i64 16777216, .int .i64 0, .int .i64 0]) ?_ 4 _ rfl; (with_reducible repeat (first | refine aG ?_ _ | refine aJ ?_ | refine aH ?_ _)); refine fB (cs := #[.int .i64 2097152, .int .i64 16777216, .int .i64 262144, .int .i64 0, .int .i64 0, .int .i64 0]) ?_ 3 _ rfl; (with_reducible repeat (first | refine aG ?_ _ | refine aJ ?_ | refine aH ?_ _)); refine fB (cs := #[.int .i64 2097152, .int .i64 16777216, .int .i64 0, .int .i64 0, .int .i64 0, .int .i64 0]) ?_ 2 _ rfl; (with_reducible repeat (first | refine aG ?_ _ | refine aJ ?_ | refine aH ?_ _)); refine fB (cs := #[.int .i64 2097152, .int .i64 0, .int .i64 0, .int .i64 0, .int .i64 0, .int .i64 0]) ?_ 1 _ rfl; (with_reducible repeat (first | refine aG ?_ _ | refine aJ ?_ | refine aH ?_ _)); refine fB (cs := #[.int .i64 0, .int .i64 0, .int .i64 0, .int .i64 0, .int .i64 0, .int .i64 0]) ?_ 0 _ rfl; (with_reducible repeat (first | refine aG ?_ _ | refine aJ ?_ | refine aH ?_ _)); exact qy.out) Try.underlying24 rfl (by kernel_rfl)) rfl ?_
 exact ⟨by first | rfl | (simp [aN, aK] <;> rfl) | (simp [*, aN, aK] <;> rfl), by repeat (first | (with_reducible first | exact HB.out | apply ak | apply ah | apply au | refine aB ?_ aam.out) | exact HB.out)⟩
def bC.l0 : Nat → List Int → Int → Option (Bool)
 | 0, _, _ => none
 | k + 1, x3, x4 => if x4 < (x3.length : Int) then (if 0 ≤ x4 then (if (rd x3 x4) < 1 then (some false) else (if (rd x3 x4) > 17179869184 then (some false) else (bC.l0 k x3 (wrap64 (x4 + 1))))) else (none)) else (some true)
def bC.f (k : Nat) (aW : Int) (aY : Int) (xw : Int) (dB : Int) (dG : Int) (xu : Int) : Option (Bool) := bC.l0 k (([aW, aY, xw, dB, dG, xu] : List Int)) 0
theorem bC.calls (k : Nat) (aW : Int) (aY : Int) (xw : Int) (dB : Int) (dG : Int) (xu : Int) (r : Bool) (w : World) (h : bC.f k aW aY xw dB dG xu = some r) :
 Calls Try.prog 14 #[.agg #[.int .i64 aW, .int .i64 aY, .int .i64 xw, .int .i64 dB, .int .i64 dG, .int .i64 xu]] w fun e w' => e = .returned (.bool r) ∧ Below w.heap.size w w' := by
 have VY := Try.underlying24
 have HB := aj.mk (Below.refl w.heap.size w)
 have H : (bC.l0 k (([aW, aY, xw, dB, dG, xu] : List Int)) 0) = some r := h
 clear h
 obtain ⟨rX, Ho⟩ : ∃ y_ : List Int, y_ = (([aW, aY, xw, dB, dG, xu] : List Int)) := ⟨_, rfl⟩
 replace H : (bC.l0 k rX 0) = some r := by first | (rw [Ho]; with_reducible exact H) | (have XF := (Option.bind_some _ _).symm.trans H; rw [Ho]; with_reducible exact XF) | (have XF := (Option.bind_some _ _).symm.trans H; with_reducible exact XF) | with_reducible exact H | (rw [Ho]; exact H) | exact H
 have Vl := aj.mk Ho
 clear Ho
 have H' := aj.mk H
 clear H
 go_enter Try.func14, Try.ntmps14
 go_wp2_with (first | ((with_reducible refine dS (N := 1) rfl ?_); refine dM ?hg (N := 1) ?hd (cs := #[.int .i64 aW, .int .i64 aY, .int .i64 xw, .int .i64 dB, .int .i64 dG, .int .i64 xu]) (t := 24) ?hr ?_; (case hd => rfl); (case hg => rfl); (case hr => first | (go_simp; done) | (go_simp; rfl)); intro u_ hg w2 hbox hb; have bF := aj.mk (aP (by repeat (first | (with_reducible first | exact HB.out | apply ak | apply ah | apply au) | exact HB.out)) hb); have dZ := aj.mk (hbox); have fE := aj.mk ((by rw [hg]; exact (bu (by repeat (first | (with_reducible first | exact HB.out | apply ak | apply ah | apply au) | exact HB.out))) : w.heap.size ≤ u_)); have gu := aj.mk ((by rw [hg]; exact (bu (by repeat (first | (with_reducible first | exact HB.out | apply ak | apply ah | apply au) | exact HB.out))) : w.heap.size ≤ u_)); clear HB; have HB := bF; have lW := dZ; have agB := fE; have BX := gu; clear bF dZ fE gu; clear hb hbox hg; have WB : w2.cell? ⟨u_, 0, none⟩ = some (.int .i64 aW) := (ay lW.out 0).trans rfl; have Wy : w2.cell? ⟨u_, 1, none⟩ = some (.int .i64 aY) := (ay lW.out 1).trans rfl; have Wx : w2.cell? ⟨u_, 2, none⟩ = some (.int .i64 xw) := (ay lW.out 2).trans rfl; have Wv : w2.cell? ⟨u_, 3, none⟩ = some (.int .i64 dB) := (ay lW.out 3).trans rfl; have Wu : w2.cell? ⟨u_, 4, none⟩ = some (.int .i64 dG) := (ay lW.out 4).trans rfl; have Ws : w2.cell? ⟨u_, 5, none⟩ = some (.int .i64 xu) := (ay lW.out 5).trans rfl; have Wj := az lW.out 0; have Wi := az lW.out 1; have Wh := az lW.out 2; have We := az lW.out 3; have V_ := az lW.out 4; have V9 := az lW.out 5) | ((with_reducible refine dS (N := 17) rfl ?_); refine Kd.Zq (Kd.int .i64) _ 22 ?hg (N := 17) ?hd (xs := ([aW, aY, xw, dB, dG, xu] : List Int)) (inner := [.int .i64 aW, .int .i64 aY, .int .i64 xw, .int .i64 dB, .int .i64 dG, .int .i64 xu]) (ok := fun _ => True) (okp := fun _ => True) ?hr ?hp (fun _ hk => hk) trivial (Below.refl _ _) (Nat.le_refl _) (by simp) ?_; (case hd => rfl); (case hg => rfl); (case hr => first | (go_simp; done) | (go_simp; rfl)); (case hp => exact (eH.one (show Kd.M (Kd.int .i64) _ _ _ aW [.int .i64 aW] from rfl) (eH.one (show Kd.M (Kd.int .i64) _ _ _ aY [.int .i64 aY] from rfl) (eH.one (show Kd.M (Kd.int .i64) _ _ _ xw [.int .i64 xw] from rfl) (eH.one (show Kd.M (Kd.int .i64) _ _ _ dB [.int .i64 dB] from rfl) (eH.one (show Kd.M (Kd.int .i64) _ _ _ dG [.int .i64 dG] from rfl) (eH.one (show Kd.M (Kd.int .i64) _ _ _ xu [.int .i64 xu] from rfl) (eH.none _ _)))))))); intro acF w4 Yy hb hg_ YA; clear hg_ YA; (first | rw [← Vl.out] at Yy | (simp only [Int.reduceToNat] at Yy; rw [← Vl.out] at Yy)); have bF := aj.mk (Kd.nM Yy (bu (by repeat (first | (with_reducible first | exact HB.out | apply ak | apply ah | apply au | refine aB ?_ BX.out) | exact HB.out)))); have dZ := aj.mk (bI (g := u_) (o := .cells #[.int .i64 aW, .int .i64 aY, .int .i64 xw, .int .i64 dB, .int .i64 dG, .int .i64 xu] 24 (0, 0)) (by (with_reducible repeat (first | refine aG ?_ _ | refine aJ ?_ | refine aH ?_ _)); exact lW.out) hb); have fE := aj.mk (aP (by repeat (first | (with_reducible first | exact HB.out | apply ak | apply ah | apply au | refine aB ?_ BX.out) | exact HB.out)) hb); clear lW; clear HB; have aae := bF; have lW := dZ; have HB := fE; clear bF dZ fE; clear hb Yy))
 go_loopg [4] k (fun kq v4 w' => ∃ (kW : Int), v4 = .int .i64 kW ∧ aj (bC.l0 kq rX kW = some r) ∧ aj (kq ≤ k) ∧ aj (Kd.R (Kd.int .i64) 22 w' w.heap.size (fun _ => True) acF rX) ∧ aj (w'.heap[u_]? = some (.cells #[.int .i64 aW, .int .i64 aY, .int .i64 xw, .int .i64 dB, .int .i64 dG, .int .i64 xu] 24 (0, 0))) ∧ aj (Below w.heap.size w w'))
 case atStart => exact ⟨(0), (by first | rfl | (simp; done) | (simp [*]; done)), H', ⟨Nat.le_refl _⟩, ⟨by (with_reducible repeat (first | apply Kd.fK | apply Kd.fJ | apply Kd.gB)); exact aae.out⟩, ⟨by (with_reducible repeat (first | refine aG ?_ _ | refine aJ ?_ | refine aH ?_ _)); exact lW.out⟩, ⟨by repeat (first | (with_reducible first | exact HB.out | apply ak | apply ah | apply au | refine aB ?_ BX.out) | exact HB.out)⟩⟩
 case round =>
  clear H'
  try clear c1
  try clear p2
  try clear WB
  try clear Wy
  try clear Wx
  try clear Wv
  try clear Wu
  try clear Ws
  try clear Wj
  try clear Wi
  try clear Wh
  try clear We
  try clear V_
  try clear V9
  obtain ⟨kW, rfl, HA, xC, C9, lW, HB⟩ := hrel
  cases gk with
  | zero => exact absurd HA.out (by simp [bC.l0])
  | succ k1 =>
    have H := HA.out
    clear HA
    simp only [bC.l0] at H
    by_cases c6 : kW < (rX.length : Int)
    · rw [if_pos c6] at H
      have vS : decide (kW < (rX.length : Int)) = true := decide_eq_true c6
      clear c6
      by_cases c7 : 0 ≤ kW
      · rw [if_pos c7] at H
        have yc : decide (0 ≤ kW) = true := decide_eq_true c7
        clear c7
        by_cases c8 : (rd rX kW) < 1
        · rw [if_pos c8] at H
          have x_ : decide ((rd rX kW) < 1) = true := decide_eq_true c8
          clear c8
          obtain rfl := Option.some.inj H
          obtain ⟨Ao9, co9, eo9⟩ := Kd.jw C9.out
          subst eo9
          have zZ : 0 ≤ (kW : Int) := of_decide_eq_true (by first | (with_reducible assumption) | assumption)
          have zY : kW < (rX.length : Int) := of_decide_eq_true (by first | (with_reducible assumption) | assumption)
          obtain ⟨Mc, e187, Ll⟩ := Kd.jm (Kd.jf C9.out).2.2 kW zZ zY
          cases e187
          replace zZ := eq_true zZ
          replace zY := eq_true zY
          go_wp2
          go_ret
          exact ⟨by first | rfl | (simp [aN, aK] <;> rfl) | (simp [*, aN, aK] <;> rfl), by repeat (first | (with_reducible first | exact HB.out | apply ak | apply ah | apply au | refine aB ?_ BX.out) | exact HB.out)⟩
        · rw [if_neg c8] at H
          have x_ : decide ((rd rX kW) < 1) = false := decide_eq_false c8
          clear c8
          by_cases c10 : (rd rX kW) > 17179869184
          · rw [if_pos c10] at H
            have tJ : decide (17179869184 < (rd rX kW)) = true := decide_eq_true c10
            clear c10
            obtain rfl := Option.some.inj H
            obtain ⟨aiI, aid, adT⟩ := Kd.jw C9.out
            subst adT
            have zZ : 0 ≤ (kW : Int) := of_decide_eq_true (by first | (with_reducible assumption) | assumption)
            have zY : kW < (rX.length : Int) := of_decide_eq_true (by first | (with_reducible assumption) | assumption)
            obtain ⟨Mc, e187, Ll⟩ := Kd.jm (Kd.jf C9.out).2.2 kW zZ zY
            cases e187
            replace zZ := eq_true zZ
            replace zY := eq_true zY
            have Jw : 0 ≤ (kW : Int) := of_decide_eq_true (by first | (with_reducible assumption) | assumption)
            have Jq : kW < (rX.length : Int) := of_decide_eq_true (by first | (with_reducible assumption) | assumption)
            obtain ⟨QX, WJ, SE⟩ := Kd.jm (Kd.jf C9.out).2.2 kW Jw Jq
            obtain rfl : Mc = QX := (by injection WJ)
            replace Jw := eq_true Jw
            replace Jq := eq_true Jq
            go_wp2
            go_ret
            exact ⟨by first | rfl | (simp [aN, aK] <;> rfl) | (simp [*, aN, aK] <;> rfl), by repeat (first | (with_reducible first | exact HB.out | apply ak | apply ah | apply au | refine aB ?_ BX.out) | exact HB.out)⟩
          · rw [if_neg c10] at H
            have tJ : decide (17179869184 < (rd rX kW)) = false := decide_eq_false c10
            clear c10
            have H' := aj.mk H
            clear H
            obtain ⟨XL, WR, WH⟩ := Kd.jw C9.out
            subst WH
            have zZ : 0 ≤ (kW : Int) := of_decide_eq_true (by first | (with_reducible assumption) | assumption)
            have zY : kW < (rX.length : Int) := of_decide_eq_true (by first | (with_reducible assumption) | assumption)
            obtain ⟨Mc, e187, Ll⟩ := Kd.jm (Kd.jf C9.out).2.2 kW zZ zY
            cases e187
            replace zZ := eq_true zZ
            replace zY := eq_true zY
            have Jw : 0 ≤ (kW : Int) := of_decide_eq_true (by first | (with_reducible assumption) | assumption)
            have Jq : kW < (rX.length : Int) := of_decide_eq_true (by first | (with_reducible assumption) | assumption)
            obtain ⟨QX, WJ, SE⟩ := Kd.jm (Kd.jf C9.out).2.2 kW Jw Jq
            obtain rfl : Mc = QX := (by injection WJ)
            replace Jw := eq_true Jw
            replace Jq := eq_true Jq
            go_wp2
            go_roundg k1
            case measure => have := xC.out; omega
            case rel => exact ⟨(wrap64 (kW + 1)), (by first | rfl | (simp; done) | (simp [*]; done)), H', ⟨by have := xC.out; omega⟩, ⟨by (with_reducible repeat (first | apply Kd.fK | apply Kd.fJ | apply Kd.gB)); exact C9.out⟩, ⟨by (with_reducible repeat (first | refine aG ?_ _ | refine aJ ?_ | refine aH ?_ _)); exact lW.out⟩, ⟨by repeat (first | (with_reducible first | exact HB.out | apply ak | apply ah | apply au | refine aB ?_ BX.out) | exact HB.out)⟩⟩
      · rw [if_neg c7] at H
        exact absurd H (by simp)
    · rw [if_neg c6] at H
      have vS : decide (kW < (rX.length : Int)) = false := decide_eq_false c6
      clear c6
      obtain rfl := Option.some.inj H
      obtain ⟨aiH, aic, adS⟩ := Kd.jw C9.out
      subst adS
      go_wp2
      go_ret
      exact ⟨by first | rfl | (simp [aN, aK] <;> rfl) | (simp [*, aN, aK] <;> rfl), by repeat (first | (with_reducible first | exact HB.out | apply ak | apply ah | apply au | refine aB ?_ BX.out) | exact HB.out)⟩
def eF.f (a0 : Int) : Option (Bool) := if a0 ≥ (-70368744177664) then (some (decide (a0 ≤ 70368744177663))) else (some false)
theorem eF.calls (a0 : Int) (r : Bool) (w : World) (h : eF.f a0 = some r) :
 Calls Try.prog 73 #[.int .i64 a0] w fun e w' => e = .returned (.bool r) ∧ bH w w' := by
 have H : (if a0 ≥ (-70368744177664) then (some (decide (a0 ≤ 70368744177663))) else (some false)) = some r := h
 clear h
 by_cases c2 : a0 ≥ (-70368744177664)
 · rw [if_pos c2] at H
   have WV : decide ((-70368744177664) ≤ a0) = true := decide_eq_true c2
   clear c2
   obtain rfl := Option.some.inj H
   go_enter Try.func73, Try.ntmps73
   go_wp2
   go_ret
   exact ⟨by first | rfl | (simp; done) | (simp [*]; done), by repeat (first | exact bH.refl _ | apply bH.step)⟩
 · rw [if_neg c2] at H
   have WV : decide ((-70368744177664) ≤ a0) = false := decide_eq_false c2
   clear c2
   obtain rfl := Option.some.inj H
   go_enter Try.func73, Try.ntmps73
   go_wp2
   go_ret
   exact ⟨by first | rfl | (simp; done) | (simp [*]; done), by repeat (first | exact bH.refl _ | apply bH.step)⟩
end Go.Proofs.Ytnijhjbcjeohhaa.PQ

namespace Go.Proofs.Ytnijhjbcjeohhaa.PQ
open Go.RowKit Go.Proofs.af.aO Go.Proofs.af.aU Go.Proofs.af.aV
attribute [local go_sem] gW gU jq jo fP fO gV gQ
set_option linter.unusedVariables false
set_option linter.unusedSimpArgs false
mutual
def aA.j0 : Nat → Bool → Int → Int → List Int → Option (Bool)
 | 0, _, _, _, _ => none
 | k + 1, x33, D9, D8, vX => if x33 = true then (some false) else (aA.l0 k 0 D9 D8 vX)
def aA.l0 : Nat → Int → Int → Int → List Int → Option (Bool)
 | 0, _, _, _, _ => none
 | k + 1, x3, D9, D8, vX => if x3 < (vX.length : Int) then (if 0 ≤ x3 then ((eF.f (rd vX x3)).bind fun t191 => (if t191 = true then (aA.l0 k (wrap64 (x3 + 1)) D9 D8 vX) else (some false))) else (none)) else (some true)
end
def aA.f (k : Nat) (aW : Int) (aY : Int) (aZ : List Int) : Option (Bool) := if aW < 1 then (aA.j0 k true aW aY aZ) else (if aW > 8 then (aA.j0 k true aW aY aZ) else (if aY < 1 then (aA.j0 k true aW aY aZ) else (if aY > 8 then (aA.j0 k true aW aY aZ) else (aA.j0 k ((aZ.length : Int) != (wrap64 (aW * aY))) aW aY aZ))))
theorem aA.PX : ∀ k, (∀ y0 y1 y2 y3, nT (aA.j0 k y0 y1 y2 y3) (aA.j0 (k + 1) y0 y1 y2 y3)) ∧ (∀ y0 y1 y2 y3, nT (aA.l0 k y0 y1 y2 y3) (aA.l0 (k + 1) y0 y1 y2 y3))
 | 0 => ⟨fun _ _ _ _ r h => by simp [aA.j0] at h, fun _ _ _ _ r h => by simp [aA.l0] at h⟩
 | k + 1 => by
   obtain ⟨VW, ih1⟩ := aA.PX k
   refine ⟨?_, ?_⟩
   · intro y0 y1 y2 y3
     unfold aA.j0
     repeat' first
     | (with_reducible exact VW _ _ _ _)
     | (with_reducible exact ih1 _ _ _ _)
     | (with_reducible exact nT.refl _)
     | (with_reducible exact nT.none _)
     | (with_reducible refine nT.ite ?_ ?_)
     | (with_reducible refine nT.bind ?_ (fun _ => ?_))
     | exact VW _ _ _ _
     | exact ih1 _ _ _ _
     | exact nT.none _
     | refine nT.ite ?_ ?_
     | refine nT.bind ?_ (fun _ => ?_)
   · intro y0 y1 y2 y3
     unfold aA.l0
     repeat' first
     | (with_reducible exact VW _ _ _ _)
     | (with_reducible exact ih1 _ _ _ _)
     | (with_reducible exact nT.refl _)
     | (with_reducible exact nT.none _)
     | (with_reducible refine nT.ite ?_ ?_)
     | (with_reducible refine nT.bind ?_ (fun _ => ?_))
     | exact VW _ _ _ _
     | exact ih1 _ _ _ _
     | exact nT.none _
     | refine nT.ite ?_ ?_
     | refine nT.bind ?_ (fun _ => ?_)
theorem aA.mono : ∀ a0 a1 a2 k, nT (aA.f k a0 a1 a2) (aA.f (k + 1) a0 a1 a2) := by
 intro a0 a1 a2 k
 obtain ⟨VW, ih1⟩ := aA.PX k
 unfold aA.f
 repeat' first
  | (with_reducible exact VW _ _ _ _)
  | (with_reducible exact ih1 _ _ _ _)
  | (with_reducible exact nT.refl _)
  | (with_reducible exact nT.none _)
  | (with_reducible refine nT.ite ?_ ?_)
  | (with_reducible refine nT.bind ?_ (fun _ => ?_))
  | exact VW _ _ _ _
  | exact ih1 _ _ _ _
  | exact nT.none _
  | refine nT.ite ?_ ?_
  | refine nT.bind ?_ (fun _ => ?_)
theorem aA.calls (k : Nat) (aW : Int) (aY : Int) (cu : Option Addr) (b_ : Nat) (aZ : List Int) (r : Bool) (w : World) (jF : Kd.C (Kd.int .i64) w cu aZ.length aZ) (kF : aZ.length ≤ b_) (h : aA.f k aW aY aZ = some r) :
 Calls Try.prog 72 #[.agg #[.int .i64 aW, .int .i64 aY, .slice cu aZ.length b_]] w fun e w' => e = .returned (.bool r) ∧ Below w.heap.size w w' := by
 have JL := Try.underlying31
 have pg := aj.mk jF
 have rM := aj.mk kF
 clear jF kF
 have HB := aj.mk (Below.refl w.heap.size w)
 have H : (if aW < 1 then (aA.j0 k true aW aY aZ) else (if aW > 8 then (aA.j0 k true aW aY aZ) else (if aY < 1 then (aA.j0 k true aW aY aZ) else (if aY > 8 then (aA.j0 k true aW aY aZ) else (aA.j0 k ((aZ.length : Int) != (wrap64 (aW * aY))) aW aY aZ))))) = some r := h
 clear h
 have HC2 := aj.mk H
 clear H
 go_enter Try.func72, Try.ntmps72
 go_upto_region 1 with (first | ((with_reducible refine dS (N := 1) rfl ?_); (try (refine JY (by rfl) ?_; dsimp only)); refine dM ?hg (N := 1) ?hd (cs := #[.int .i64 aW, .int .i64 aY, .slice cu aZ.length b_]) (t := 31) ?hr ?_; (case hd => rfl); (case hg => rfl); (case hr => first | (go_simp; done) | (go_simp; rfl)); intro iy hg w3 hbox hb; have bF := aj.mk (aP (by repeat (first | (with_reducible first | exact HB.out | apply ak | apply ah | apply au) | exact HB.out)) hb); have dZ := aj.mk (hbox); have fE := aj.mk ((by rw [hg]; exact (bu (by repeat (first | (with_reducible first | exact HB.out | apply ak | apply ah | apply au) | exact HB.out))) : w.heap.size ≤ iy)); have gu := aj.mk ((by rw [hg]; exact (bu (by repeat (first | (with_reducible first | exact HB.out | apply ak | apply ah | apply au) | exact HB.out))) : w.heap.size ≤ iy)); clear HB; have HB := bF; have dN := dZ; have agA := fE; have vH := gu; clear bF dZ fE gu; clear hb hbox hg))
 (try simp only [Act.put, List.setIfInBounds_toArray, List.set_cons_zero, List.set_cons_succ])
 go_cut [33] (fun v33 wc => ∃ (kq : Nat) (KQ : Bool), v33 = .bool KQ ∧ aj (aA.j0 kq KQ aW aY aZ = some r) ∧ aj (kq ≤ k) ∧ aj (wc.heap[iy]? = some (.cells #[.int .i64 aW, .int .i64 aY, (.slice cu aZ.length b_)] 31 (0, 0))) ∧ aj (Below w.heap.size w wc))
 case first =>
  have H := HC2.out
  clear HC2
  by_cases c4 : aW < 1
  · rw [if_pos c4] at H
    have tC : decide (aW < 1) = true := decide_eq_true c4
    clear c4
    (first | rw [tC] | (simp only [bY, bZ]; rw [tC]) | skip)
    have H' := aj.mk H
    clear H
    have JW : w3.cell? ⟨iy, 0, none⟩ = some (.int .i64 aW) := (ay dN.out 0).trans rfl
    have JV : w3.cell? ⟨iy, 1, none⟩ = some (.int .i64 aY) := (ay dN.out 1).trans rfl
    have JU : w3.cell? ⟨iy, 2, none⟩ = some (.slice cu aZ.length b_) := (ay dN.out 2).trans rfl
    have JQ := az dN.out 0
    have JP := az dN.out 1
    have JO := az dN.out 2
    go_wp2
    go_meet
    case rel => exact ⟨_, (true), (by first | rfl | (simp; done) | (simp [*]; done)), H', ⟨by first | omega | exact Nat.le_refl _⟩, ⟨by (with_reducible repeat (first | refine aG ?_ _ | refine aJ ?_ | refine aH ?_ _)); exact dN.out⟩, ⟨by repeat (first | (with_reducible first | exact HB.out | apply ak | apply ah | apply au | refine aB ?_ vH.out) | exact HB.out)⟩⟩
  · rw [if_neg c4] at H
    have tC : decide (aW < 1) = false := decide_eq_false c4
    clear c4
    (first | rw [tC] | (simp only [bY, bZ]; rw [tC]) | skip)
    by_cases c6 : aW > 8
    · rw [if_pos c6] at H
      have vS : decide (8 < aW) = true := decide_eq_true c6
      clear c6
      have H' := aj.mk H
      clear H
      have Qh : w3.cell? ⟨iy, 0, none⟩ = some (.int .i64 aW) := (ay dN.out 0).trans rfl
      have Qg : w3.cell? ⟨iy, 1, none⟩ = some (.int .i64 aY) := (ay dN.out 1).trans rfl
      have Qe : w3.cell? ⟨iy, 2, none⟩ = some (.slice cu aZ.length b_) := (ay dN.out 2).trans rfl
      have Qc := az dN.out 0
      have Qb := az dN.out 1
      have Qa := az dN.out 2
      go_wp2
      go_meet
      case rel => exact ⟨_, (true), (by first | rfl | (simp; done) | (simp [*]; done)), H', ⟨by first | omega | exact Nat.le_refl _⟩, ⟨by (with_reducible repeat (first | refine aG ?_ _ | refine aJ ?_ | refine aH ?_ _)); exact dN.out⟩, ⟨by repeat (first | (with_reducible first | exact HB.out | apply ak | apply ah | apply au | refine aB ?_ vH.out) | exact HB.out)⟩⟩
    · rw [if_neg c6] at H
      have vS : decide (8 < aW) = false := decide_eq_false c6
      clear c6
      by_cases c8 : aY < 1
      · rw [if_pos c8] at H
        have x_ : decide (aY < 1) = true := decide_eq_true c8
        clear c8
        have H' := aj.mk H
        clear H
        have Ba : w3.cell? ⟨iy, 0, none⟩ = some (.int .i64 aW) := (ay dN.out 0).trans rfl
        have Ff : w3.cell? ⟨iy, 1, none⟩ = some (.int .i64 aY) := (ay dN.out 1).trans rfl
        have Fe : w3.cell? ⟨iy, 2, none⟩ = some (.slice cu aZ.length b_) := (ay dN.out 2).trans rfl
        have AA := az dN.out 0
        have ED := az dN.out 1
        have EC := az dN.out 2
        go_wp2
        go_meet
        case rel => exact ⟨_, (true), (by first | rfl | (simp; done) | (simp [*]; done)), H', ⟨by first | omega | exact Nat.le_refl _⟩, ⟨by (with_reducible repeat (first | refine aG ?_ _ | refine aJ ?_ | refine aH ?_ _)); exact dN.out⟩, ⟨by repeat (first | (with_reducible first | exact HB.out | apply ak | apply ah | apply au | refine aB ?_ vH.out) | exact HB.out)⟩⟩
      · rw [if_neg c8] at H
        have x_ : decide (aY < 1) = false := decide_eq_false c8
        clear c8
        by_cases c10 : aY > 8
        · rw [if_pos c10] at H
          have tJ : decide (8 < aY) = true := decide_eq_true c10
          clear c10
          have H' := aj.mk H
          clear H
          have zB : w3.cell? ⟨iy, 0, none⟩ = some (.int .i64 aW) := (ay dN.out 0).trans rfl
          have zA : w3.cell? ⟨iy, 1, none⟩ = some (.int .i64 aY) := (ay dN.out 1).trans rfl
          have zy : w3.cell? ⟨iy, 2, none⟩ = some (.slice cu aZ.length b_) := (ay dN.out 2).trans rfl
          have zx := az dN.out 0
          have zo := az dN.out 1
          have zn := az dN.out 2
          go_wp2
          go_meet
          case rel => exact ⟨_, (true), (by first | rfl | (simp; done) | (simp [*]; done)), H', ⟨by first | omega | exact Nat.le_refl _⟩, ⟨by (with_reducible repeat (first | refine aG ?_ _ | refine aJ ?_ | refine aH ?_ _)); exact dN.out⟩, ⟨by repeat (first | (with_reducible first | exact HB.out | apply ak | apply ah | apply au | refine aB ?_ vH.out) | exact HB.out)⟩⟩
        · rw [if_neg c10] at H
          have tJ : decide (8 < aY) = false := decide_eq_false c10
          clear c10
          have H' := aj.mk H
          clear H
          have wX : w3.cell? ⟨iy, 0, none⟩ = some (.int .i64 aW) := (ay dN.out 0).trans rfl
          have wW : w3.cell? ⟨iy, 1, none⟩ = some (.int .i64 aY) := (ay dN.out 1).trans rfl
          have wV : w3.cell? ⟨iy, 2, none⟩ = some (.slice cu aZ.length b_) := (ay dN.out 2).trans rfl
          have wS := az dN.out 0
          have wR := az dN.out 1
          have wQ := az dN.out 2
          go_wp2
          go_meet
          case rel => exact ⟨_, (((aZ.length : Int) != (wrap64 (aW * aY)))), (by first | rfl | (simp; done) | (simp [*]; done)), H', ⟨by first | omega | exact Nat.le_refl _⟩, ⟨by (with_reducible repeat (first | refine aG ?_ _ | refine aJ ?_ | refine aH ?_ _)); exact dN.out⟩, ⟨by repeat (first | (with_reducible first | exact HB.out | apply ak | apply ah | apply au | refine aB ?_ vH.out) | exact HB.out)⟩⟩
 case rest =>
  clear HC2
  try clear c1
  try clear p2
  try clear c4
  try clear tC
  try clear c6
  try clear vS
  try clear p6
  try clear c7
  try clear c8
  try clear x_
  try clear c10
  try clear tJ
  try clear zB
  try clear zA
  try clear zy
  try clear wX
  try clear wW
  try clear wV
  try clear JW
  try clear JV
  try clear JU
  try clear Qh
  try clear Qg
  try clear Qe
  try clear Ba
  try clear Ff
  try clear Fe
  try clear zx
  try clear zo
  try clear zn
  try clear wS
  try clear wR
  try clear wQ
  try clear JQ
  try clear JP
  try clear JO
  try clear Qc
  try clear Qb
  try clear Qa
  try clear AA
  try clear ED
  try clear EC
  obtain ⟨kq, KQ, rfl, HA, HJ1, dN, HB⟩ := hcut
  cases kq with
  | zero => exact absurd HA.out (by simp [aA.j0])
  | succ kj1 =>
    have H := HA.out
    clear HA
    simp only [aA.j0] at H
    by_cases c13 : KQ = true
    · subst c13
      rw [if_pos rfl] at H
      obtain rfl := Option.some.inj H
      go_wp2
      go_ret
      exact ⟨by first | rfl | (simp [aN, aK] <;> rfl) | (simp [*, aN, aK] <;> rfl), by repeat (first | (with_reducible first | exact HB.out | apply ak | apply ah | apply au | refine aB ?_ vH.out) | exact HB.out)⟩
    · replace c13 := Bool.eq_false_iff.mpr c13
      subst c13
      have H1 : (aA.l0 kj1 0 aW aY aZ) = some r := by rw [if_neg (show ¬ (false = true) by decide)] at H; exact H
      clear H
      have H := H1
      clear H1
      have H' := aj.mk H
      clear H
      go_wp2
      go_loopg [3] kj1 (fun kq v3 w' => ∃ (pR : Int), v3 = .int .i64 pR ∧ aj (aA.l0 kq pR aW aY aZ = some r) ∧ aj (kq ≤ kj1) ∧ aj (w'.heap[iy]? = some (.cells #[.int .i64 aW, .int .i64 aY, (.slice cu aZ.length b_)] 31 (0, 0))) ∧ aj (Below w.heap.size w w'))
      case atStart => exact ⟨(0), (by first | rfl | (simp; done) | (simp [*]; done)), H', ⟨Nat.le_refl _⟩, ⟨by (with_reducible repeat (first | refine aG ?_ _ | refine aJ ?_ | refine aH ?_ _)); exact dN.out⟩, ⟨by repeat (first | (with_reducible first | exact HB.out | apply ak | apply ah | apply au | refine aB ?_ vH.out) | exact HB.out)⟩⟩
      case round =>
       clear H'
       try clear c1
       try clear p2
       try clear c4
       try clear tC
       try clear c6
       try clear vS
       try clear p6
       try clear c7
       try clear c8
       try clear x_
       try clear c10
       try clear tJ
       try clear c13
       try clear zB
       try clear zA
       try clear zy
       try clear wX
       try clear wW
       try clear wV
       try clear JW
       try clear JV
       try clear JU
       try clear Qh
       try clear Qg
       try clear Qe
       try clear Ba
       try clear Ff
       try clear Fe
       try clear zx
       try clear zo
       try clear zn
       try clear wS
       try clear wR
       try clear wQ
       try clear JQ
       try clear JP
       try clear JO
       try clear Qc
       try clear Qb
       try clear Qa
       try clear AA
       try clear ED
       try clear EC
       try clear p2
       try clear p6
       obtain ⟨pR, rfl, HA, KI, dN, HB⟩ := hrel
       cases gk with
       | zero => exact absurd HA.out (by simp [aA.l0])
       | succ k2 =>
         have H := HA.out
         clear HA
         simp only [aA.l0] at H
         by_cases c14 : pR < (aZ.length : Int)
         · rw [if_pos c14] at H
           have nD : decide (pR < (aZ.length : Int)) = true := decide_eq_true c14
           clear c14
           by_cases c15 : 0 ≤ pR
           · rw [if_pos c15] at H
             have QM : decide (0 ≤ pR) = true := decide_eq_true c15
             clear c15
             replace H := Option.bind_eq_some_iff.mp H
             obtain ⟨t191, IZ, H⟩ := H
             replace H : (if t191 = true then (aA.l0 k2 (wrap64 (pR + 1)) aW aY aZ) else (some false)) = some r := H
             have MQ := aj.mk IZ
             clear IZ
             by_cases c17 : t191 = true
             · subst c17
               rw [if_pos rfl] at H
               have H' := aj.mk H
               clear H
               have TI : wr.cell? ⟨iy, 0, none⟩ = some (.int .i64 aW) := (ay dN.out 0).trans rfl
               have ab5 : wr.cell? ⟨iy, 1, none⟩ = some (.int .i64 aY) := (ay dN.out 1).trans rfl
               have ab4 : wr.cell? ⟨iy, 2, none⟩ = some (.slice cu aZ.length b_) := (ay dN.out 2).trans rfl
               have Ti := az dN.out 0
               have abx := az dN.out 1
               have abw := az dN.out 2
               have Jv : 0 ≤ (pR : Int) := of_decide_eq_true (by first | (with_reducible assumption) | assumption)
               have Jp : pR < (aZ.length : Int) := of_decide_eq_true (by first | (with_reducible assumption) | assumption)
               obtain ⟨Zc, e190, qJ⟩ := Kd.jm pg.out pR Jv Jp
               cases e190
               replace qJ := (HB.out.cell (World.block_lt_of_cell? w _ qJ)).trans qJ
               replace Jv := eq_true Jv
               replace Jp := eq_true Jp
               go_wp2_with (first | ((with_reducible refine aF (f := 73) rfl ?_); refine a_ (some 46) rfl rfl Try.func73 (by kernel_rfl) rfl #[.int .i64 (rd aZ pR)] rfl (by (try simp only [List.map_toArray, List.map_cons, List.map_nil]); first | done | rfl | (simp only [List.length_drop, List.length_take]; rfl)) ?_; (with_reducible refine (eF.calls (rd aZ pR) true _ MQ.out).mono ?_); rintro e w' ⟨rfl, ⟨nd, rfl⟩⟩; refine ⟨_, rfl, ?_⟩))
               go_roundg k2
               case measure => have := HJ1.out; have := KI.out; omega
               case rel => exact ⟨(wrap64 (pR + 1)), (by first | rfl | (simp; done) | (simp [*]; done)), H', ⟨by have := HJ1.out; have := KI.out; omega⟩, ⟨by (with_reducible repeat (first | refine aG ?_ _ | refine aJ ?_ | refine aH ?_ _)); exact dN.out⟩, ⟨by repeat (first | (with_reducible first | exact HB.out | apply ak | apply ah | apply au | refine aB ?_ vH.out) | exact HB.out)⟩⟩
             · replace c17 := Bool.eq_false_iff.mpr c17
               subst c17
               have H1 : (some false) = some r := by rw [if_neg (show ¬ (false = true) by decide)] at H; exact H
               clear H
               have H := H1
               clear H1
               obtain rfl := Option.some.inj H
               have ab3 : wr.cell? ⟨iy, 0, none⟩ = some (.int .i64 aW) := (ay dN.out 0).trans rfl
               have ab2 : wr.cell? ⟨iy, 1, none⟩ = some (.int .i64 aY) := (ay dN.out 1).trans rfl
               have ab1 : wr.cell? ⟨iy, 2, none⟩ = some (.slice cu aZ.length b_) := (ay dN.out 2).trans rfl
               have abv := az dN.out 0
               have abu := az dN.out 1
               have abt := az dN.out 2
               have Jv : 0 ≤ (pR : Int) := of_decide_eq_true (by first | (with_reducible assumption) | assumption)
               have Jp : pR < (aZ.length : Int) := of_decide_eq_true (by first | (with_reducible assumption) | assumption)
               obtain ⟨Zc, e190, qJ⟩ := Kd.jm pg.out pR Jv Jp
               cases e190
               replace qJ := (HB.out.cell (World.block_lt_of_cell? w _ qJ)).trans qJ
               replace Jv := eq_true Jv
               replace Jp := eq_true Jp
               go_wp2_with (first | ((with_reducible refine aF (f := 73) rfl ?_); refine a_ (some 46) rfl rfl Try.func73 (by kernel_rfl) rfl #[.int .i64 (rd aZ pR)] rfl (by (try simp only [List.map_toArray, List.map_cons, List.map_nil]); first | done | rfl | (simp only [List.length_drop, List.length_take]; rfl)) ?_; (with_reducible refine (eF.calls (rd aZ pR) false _ MQ.out).mono ?_); rintro e w' ⟨rfl, ⟨nd, rfl⟩⟩; refine ⟨_, rfl, ?_⟩))
               go_ret
               exact ⟨by first | rfl | (simp [aN, aK] <;> rfl) | (simp [*, aN, aK] <;> rfl), by repeat (first | (with_reducible first | exact HB.out | apply ak | apply ah | apply au | refine aB ?_ vH.out) | exact HB.out)⟩
           · rw [if_neg c15] at H
             exact absurd H (by simp)
         · rw [if_neg c14] at H
           have nD : decide (pR < (aZ.length : Int)) = false := decide_eq_false c14
           clear c14
           obtain rfl := Option.some.inj H
           have abZ : wr.cell? ⟨iy, 0, none⟩ = some (.int .i64 aW) := (ay dN.out 0).trans rfl
           have abY : wr.cell? ⟨iy, 1, none⟩ = some (.int .i64 aY) := (ay dN.out 1).trans rfl
           have abX : wr.cell? ⟨iy, 2, none⟩ = some (.slice cu aZ.length b_) := (ay dN.out 2).trans rfl
           have abr := az dN.out 0
           have abq := az dN.out 1
           have abp := az dN.out 2
           go_wp2
           go_ret
           exact ⟨by first | rfl | (simp [aN, aK] <;> rfl) | (simp [*, aN, aK] <;> rfl), by repeat (first | (with_reducible first | exact HB.out | apply ak | apply ah | apply au | refine aB ?_ vH.out) | exact HB.out)⟩
end Go.Proofs.Ytnijhjbcjeohhaa.PQ

namespace Go.Proofs.Ytnijhjbcjeohhaa.PQ
open Go.RowKit Go.Proofs.af.aO Go.Proofs.af.aU Go.Proofs.af.aV
attribute [local go_sem] gW gU jq jo fP fO gV gQ
set_option linter.unusedVariables false
set_option linter.unusedSimpArgs false
mutual
def aI.j0 : Nat → Int → Bool → Int → Int → List Int → Int → Int → List Int → Option (Bool)
 | 0, _, _, _, _, _, _, _, _ => none
 | k + 1, x5, x42, uw, uu, uq, um, uk, kK => if x42 = true then (some false) else (aI.l0 k x5 0 uw uu uq um uk kK)
def aI.l0 : Nat → Int → Int → Int → Int → List Int → Int → Int → List Int → Option (Bool)
 | 0, _, _, _, _, _, _, _, _ => none
 | k + 1, x5, x6, uw, uu, uq, um, uk, kK => if x6 < x5 then (if 0 ≤ (wrap64 ((wrap64 (x6 * x5)) + x6)) then (if (wrap64 ((wrap64 (x6 * x5)) + x6)) < (kK.length : Int) then (if (rd kK (wrap64 ((wrap64 (x6 * x5)) + x6))) < 0 then (some false) else (aI.l1 k x5 x6 0 uw uu uq um uk kK)) else (none)) else (none)) else (some true)
def aI.l1 : Nat → Int → Int → Int → Int → Int → List Int → Int → Int → List Int → Option (Bool)
 | 0, _, _, _, _, _, _, _, _, _ => none
 | k + 1, x5, x6, x7, uw, uu, uq, um, uk, kK => if x7 < x6 then (if 0 ≤ (wrap64 ((wrap64 (x6 * x5)) + x7)) then (if (wrap64 ((wrap64 (x6 * x5)) + x7)) < (kK.length : Int) then (if 0 ≤ (wrap64 ((wrap64 (x7 * x5)) + x6)) then (if (wrap64 ((wrap64 (x7 * x5)) + x6)) < (kK.length : Int) then (if (rd kK (wrap64 ((wrap64 (x6 * x5)) + x7))) = (rd kK (wrap64 ((wrap64 (x7 * x5)) + x6))) then (aI.l1 k x5 x6 (wrap64 (x7 + 1)) uw uu uq um uk kK) else (some false)) else (none)) else (none)) else (none)) else (none)) else (aI.l0 k x5 (wrap64 (x6 + 1)) uw uu uq um uk kK)
end
def aI.f (k : Nat) (aW : Int) (aY : Int) (aZ : List Int) (dB : Int) (dG : Int) (bW : List Int) : Option (Bool) := (aA.f k aW aY aZ).bind fun t193 => ((aA.f k dB dG bW).bind fun t194 => (if t193 = true then (if t194 = true then (if aY = 1 then (if dB = aW then (aI.j0 k aW (dG != aW) aW aY aZ dB dG bW) else (aI.j0 k aW true aW aY aZ dB dG bW)) else (aI.j0 k aW true aW aY aZ dB dG bW)) else (aI.j0 k aW true aW aY aZ dB dG bW)) else (aI.j0 k aW true aW aY aZ dB dG bW)))
theorem aI.calls (k : Nat) (aW : Int) (aY : Int) (cu : Option Addr) (b_ : Nat) (aZ : List Int) (dB : Int) (dG : Int) (jC : Option Addr) (iV : Nat) (bW : List Int) (r : Bool) (w : World) (jF : Kd.C (Kd.int .i64) w cu aZ.length aZ) (kF : aZ.length ≤ b_) (Ht : Kd.C (Kd.int .i64) w jC bW.length bW) (Ie : bW.length ≤ iV) (h : aI.f k aW aY aZ dB dG bW = some r) :
 Calls Try.prog 41 #[.agg #[.int .i64 aW, .int .i64 aY, .slice cu aZ.length b_, .int .i64 dB, .int .i64 dG, .slice jC bW.length iV]] w fun e w' => e = .returned (.bool r) ∧ Below w.heap.size w w' := by
 have ac2 := Try.underlying33
 have JL := Try.underlying31
 have pg := aj.mk jF
 have rM := aj.mk kF
 clear jF kF
 have vG := aj.mk Ht
 have MN := aj.mk Ie
 clear Ht Ie
 have HB := aj.mk (Below.refl w.heap.size w)
 have H : ((aA.f k aW aY aZ).bind fun t193 => ((aA.f k dB dG bW).bind fun t194 => (if t193 = true then (if t194 = true then (if aY = 1 then (if dB = aW then (aI.j0 k aW (dG != aW) aW aY aZ dB dG bW) else (aI.j0 k aW true aW aY aZ dB dG bW)) else (aI.j0 k aW true aW aY aZ dB dG bW)) else (aI.j0 k aW true aW aY aZ dB dG bW)) else (aI.j0 k aW true aW aY aZ dB dG bW)))) = some r := h
 clear h
 replace H := Option.bind_eq_some_iff.mp H
 obtain ⟨t193, Vs, H⟩ := H
 replace H : ((aA.f k dB dG bW).bind fun t194 => (if t193 = true then (if t194 = true then (if aY = 1 then (if dB = aW then (aI.j0 k aW (dG != aW) aW aY aZ dB dG bW) else (aI.j0 k aW true aW aY aZ dB dG bW)) else (aI.j0 k aW true aW aY aZ dB dG bW)) else (aI.j0 k aW true aW aY aZ dB dG bW)) else (aI.j0 k aW true aW aY aZ dB dG bW))) = some r := H
 have A2 := aj.mk Vs
 clear Vs
 replace H := Option.bind_eq_some_iff.mp H
 obtain ⟨t194, Cc, H⟩ := H
 replace H : (if t193 = true then (if t194 = true then (if aY = 1 then (if dB = aW then (aI.j0 k aW (dG != aW) aW aY aZ dB dG bW) else (aI.j0 k aW true aW aY aZ dB dG bW)) else (aI.j0 k aW true aW aY aZ dB dG bW)) else (aI.j0 k aW true aW aY aZ dB dG bW)) else (aI.j0 k aW true aW aY aZ dB dG bW)) = some r := H
 have A3 := aj.mk Cc
 clear Cc
 have XA := aj.mk H
 clear H
 go_enter Try.func41, Try.ntmps41
 go_upto_region 4 with (first | ((with_reducible refine dS (N := 1) rfl ?_); refine dM ?hg (N := 1) ?hd (cs := #[.int .i64 aW, .int .i64 aY, .slice cu aZ.length b_, .int .i64 dB, .int .i64 dG, .slice jC bW.length iV]) (t := 33) ?hr ?_; (case hd => rfl); (case hg => rfl); (case hr => first | (go_simp; done) | (go_simp; rfl)); intro bn hg w5 hbox hb; have bF := aj.mk (aP (by repeat (first | (with_reducible first | exact HB.out | apply ak | apply ah | apply au) | exact HB.out)) hb); have dZ := aj.mk (hbox); have fE := aj.mk ((by rw [hg]; exact (bu (by repeat (first | (with_reducible first | exact HB.out | apply ak | apply ah | apply au) | exact HB.out))) : w.heap.size ≤ bn)); have gu := aj.mk ((by rw [hg]; exact (bu (by repeat (first | (with_reducible first | exact HB.out | apply ak | apply ah | apply au) | exact HB.out))) : w.heap.size ≤ bn)); clear HB; have HB := bF; have aT := dZ; have Vp := fE; have kJ := gu; clear bF dZ fE gu; clear hb hbox hg; have sV : w5.cell? ⟨bn, 0, none⟩ = some (.int .i64 aW) := (ay aT.out 0).trans rfl; have sU : w5.cell? ⟨bn, 1, none⟩ = some (.int .i64 aY) := (ay aT.out 1).trans rfl; have vO : w5.cell? ⟨bn, 2, none⟩ = some (.slice cu aZ.length b_) := (ay aT.out 2).trans rfl; have Bl : w5.cell? ⟨bn, 3, none⟩ = some (.int .i64 dB) := (ay aT.out 3).trans rfl; have Bj : w5.cell? ⟨bn, 4, none⟩ = some (.int .i64 dG) := (ay aT.out 4).trans rfl; have Bi : w5.cell? ⟨bn, 5, none⟩ = some (.slice jC bW.length iV) := (ay aT.out 5).trans rfl; have sS := az aT.out 0; have sQ := az aT.out 1; have vN := az aT.out 2; have AZ := az aT.out 3; have AY := az aT.out 4; have AV := az aT.out 5) | (go_at_call 72; (with_reducible refine (aA.calls k aW aY _ _ aZ t193 _ ?f_ ?fZ A2.out).mono ?_); (case f_ => repeat (first | exact (Kd.gz pg.out HB.out) | (with_reducible refine Kd.jc ?_ _) | (with_reducible refine Kd.iZ ?_ _) | (with_reducible refine Kd.kS ?_))); (case fZ => exact rM.out); rintro e w7 ⟨rfl, hb⟩; have bF := aj.mk (bI (g := bn) (o := .cells #[.int .i64 aW, .int .i64 aY, .slice cu aZ.length b_, .int .i64 dB, .int .i64 dG, .slice jC bW.length iV] 33 (0, 0)) (by (with_reducible repeat (first | refine aG ?_ _ | refine aJ ?_ | refine aH ?_ _)); exact aT.out) hb); have dZ := aj.mk (aP (by repeat (first | (with_reducible first | exact HB.out | apply ak | apply ah | apply au | refine aB ?_ kJ.out) | exact HB.out)) hb); clear aT; clear HB; have aT := bF; have HB := dZ; clear bF dZ; (try clear hb); (try clear hb2); (try clear hk); (try clear hi); have Bh : w7.cell? ⟨bn, 0, none⟩ = some (.int .i64 aW) := (ay aT.out 0).trans rfl; have Bg : w7.cell? ⟨bn, 1, none⟩ = some (.int .i64 aY) := (ay aT.out 1).trans rfl; have Bf : w7.cell? ⟨bn, 2, none⟩ = some (.slice cu aZ.length b_) := (ay aT.out 2).trans rfl; have Be : w7.cell? ⟨bn, 3, none⟩ = some (.int .i64 dB) := (ay aT.out 3).trans rfl; have Bd : w7.cell? ⟨bn, 4, none⟩ = some (.int .i64 dG) := (ay aT.out 4).trans rfl; have Bc : w7.cell? ⟨bn, 5, none⟩ = some (.slice jC bW.length iV) := (ay aT.out 5).trans rfl; have AU := az aT.out 0; have AQ := az aT.out 1; have AP := az aT.out 2; have AO := az aT.out 3; have AL := az aT.out 4; have AB := az aT.out 5) | (go_at_call 72; (with_reducible refine (aA.calls k dB dG _ _ bW t194 _ ?f_ ?fZ A3.out).mono ?_); (case f_ => repeat (first | exact (Kd.gz vG.out HB.out) | (with_reducible refine Kd.jc ?_ _) | (with_reducible refine Kd.iZ ?_ _) | (with_reducible refine Kd.kS ?_))); (case fZ => exact MN.out); rintro e w9 ⟨rfl, hb⟩; have bF := aj.mk (bI (g := bn) (o := .cells #[.int .i64 aW, .int .i64 aY, .slice cu aZ.length b_, .int .i64 dB, .int .i64 dG, .slice jC bW.length iV] 33 (0, 0)) (by (with_reducible repeat (first | refine aG ?_ _ | refine aJ ?_ | refine aH ?_ _)); exact aT.out) hb); have dZ := aj.mk (aP (by repeat (first | (with_reducible first | exact HB.out | apply ak | apply ah | apply au | refine aB ?_ kJ.out) | exact HB.out)) hb); clear aT; clear HB; have aT := bF; have HB := dZ; clear bF dZ; (try clear hb); (try clear hb2); (try clear hk); (try clear hi); have qY : w9.cell? ⟨bn, 0, none⟩ = some (.int .i64 aW) := (ay aT.out 0).trans rfl; have qX : w9.cell? ⟨bn, 1, none⟩ = some (.int .i64 aY) := (ay aT.out 1).trans rfl; have qW : w9.cell? ⟨bn, 2, none⟩ = some (.slice cu aZ.length b_) := (ay aT.out 2).trans rfl; have qV : w9.cell? ⟨bn, 3, none⟩ = some (.int .i64 dB) := (ay aT.out 3).trans rfl; have qU : w9.cell? ⟨bn, 4, none⟩ = some (.int .i64 dG) := (ay aT.out 4).trans rfl; have qR : w9.cell? ⟨bn, 5, none⟩ = some (.slice jC bW.length iV) := (ay aT.out 5).trans rfl; have qQ := az aT.out 0; have qP := az aT.out 1; have qO := az aT.out 2; have qN := az aT.out 3; have qM := az aT.out 4; have qL := az aT.out 5))
 repeat (go_quiet (first | ((with_reducible refine dS (N := 1) rfl ?_); refine dM ?hg (N := 1) ?hd (cs := #[.int .i64 aW, .int .i64 aY, .slice cu aZ.length b_, .int .i64 dB, .int .i64 dG, .slice jC bW.length iV]) (t := 33) ?hr ?_; (case hd => rfl); (case hg => rfl); (case hr => first | (go_simp; done) | (go_simp; rfl)); intro bn hg w5 hbox hb; have bF := aj.mk (aP (by repeat (first | (with_reducible first | exact HB.out | apply ak | apply ah | apply au) | exact HB.out)) hb); have dZ := aj.mk (hbox); have fE := aj.mk ((by rw [hg]; exact (bu (by repeat (first | (with_reducible first | exact HB.out | apply ak | apply ah | apply au) | exact HB.out))) : w.heap.size ≤ bn)); have gu := aj.mk ((by rw [hg]; exact (bu (by repeat (first | (with_reducible first | exact HB.out | apply ak | apply ah | apply au) | exact HB.out))) : w.heap.size ≤ bn)); clear HB; have HB := bF; have aT := dZ; have Vp := fE; have kJ := gu; clear bF dZ fE gu; clear hb hbox hg; have sV : w5.cell? ⟨bn, 0, none⟩ = some (.int .i64 aW) := (ay aT.out 0).trans rfl; have sU : w5.cell? ⟨bn, 1, none⟩ = some (.int .i64 aY) := (ay aT.out 1).trans rfl; have vO : w5.cell? ⟨bn, 2, none⟩ = some (.slice cu aZ.length b_) := (ay aT.out 2).trans rfl; have Bl : w5.cell? ⟨bn, 3, none⟩ = some (.int .i64 dB) := (ay aT.out 3).trans rfl; have Bj : w5.cell? ⟨bn, 4, none⟩ = some (.int .i64 dG) := (ay aT.out 4).trans rfl; have Bi : w5.cell? ⟨bn, 5, none⟩ = some (.slice jC bW.length iV) := (ay aT.out 5).trans rfl; have sS := az aT.out 0; have sQ := az aT.out 1; have vN := az aT.out 2; have AZ := az aT.out 3; have AY := az aT.out 4; have AV := az aT.out 5) | (go_at_call 72; (with_reducible refine (aA.calls k aW aY _ _ aZ t193 _ ?f_ ?fZ A2.out).mono ?_); (case f_ => repeat (first | exact (Kd.gz pg.out HB.out) | (with_reducible refine Kd.jc ?_ _) | (with_reducible refine Kd.iZ ?_ _) | (with_reducible refine Kd.kS ?_))); (case fZ => exact rM.out); rintro e w7 ⟨rfl, hb⟩; have bF := aj.mk (bI (g := bn) (o := .cells #[.int .i64 aW, .int .i64 aY, .slice cu aZ.length b_, .int .i64 dB, .int .i64 dG, .slice jC bW.length iV] 33 (0, 0)) (by (with_reducible repeat (first | refine aG ?_ _ | refine aJ ?_ | refine aH ?_ _)); exact aT.out) hb); have dZ := aj.mk (aP (by repeat (first | (with_reducible first | exact HB.out | apply ak | apply ah | apply au | refine aB ?_ kJ.out) | exact HB.out)) hb); clear aT; clear HB; have aT := bF; have HB := dZ; clear bF dZ; (try clear hb); (try clear hb2); (try clear hk); (try clear hi); have Bh : w7.cell? ⟨bn, 0, none⟩ = some (.int .i64 aW) := (ay aT.out 0).trans rfl; have Bg : w7.cell? ⟨bn, 1, none⟩ = some (.int .i64 aY) := (ay aT.out 1).trans rfl; have Bf : w7.cell? ⟨bn, 2, none⟩ = some (.slice cu aZ.length b_) := (ay aT.out 2).trans rfl; have Be : w7.cell? ⟨bn, 3, none⟩ = some (.int .i64 dB) := (ay aT.out 3).trans rfl; have Bd : w7.cell? ⟨bn, 4, none⟩ = some (.int .i64 dG) := (ay aT.out 4).trans rfl; have Bc : w7.cell? ⟨bn, 5, none⟩ = some (.slice jC bW.length iV) := (ay aT.out 5).trans rfl; have AU := az aT.out 0; have AQ := az aT.out 1; have AP := az aT.out 2; have AO := az aT.out 3; have AL := az aT.out 4; have AB := az aT.out 5) | (go_at_call 72; (with_reducible refine (aA.calls k dB dG _ _ bW t194 _ ?f_ ?fZ A3.out).mono ?_); (case f_ => repeat (first | exact (Kd.gz vG.out HB.out) | (with_reducible refine Kd.jc ?_ _) | (with_reducible refine Kd.iZ ?_ _) | (with_reducible refine Kd.kS ?_))); (case fZ => exact MN.out); rintro e w9 ⟨rfl, hb⟩; have bF := aj.mk (bI (g := bn) (o := .cells #[.int .i64 aW, .int .i64 aY, .slice cu aZ.length b_, .int .i64 dB, .int .i64 dG, .slice jC bW.length iV] 33 (0, 0)) (by (with_reducible repeat (first | refine aG ?_ _ | refine aJ ?_ | refine aH ?_ _)); exact aT.out) hb); have dZ := aj.mk (aP (by repeat (first | (with_reducible first | exact HB.out | apply ak | apply ah | apply au | refine aB ?_ kJ.out) | exact HB.out)) hb); clear aT; clear HB; have aT := bF; have HB := dZ; clear bF dZ; (try clear hb); (try clear hb2); (try clear hk); (try clear hi); have qY : w9.cell? ⟨bn, 0, none⟩ = some (.int .i64 aW) := (ay aT.out 0).trans rfl; have qX : w9.cell? ⟨bn, 1, none⟩ = some (.int .i64 aY) := (ay aT.out 1).trans rfl; have qW : w9.cell? ⟨bn, 2, none⟩ = some (.slice cu aZ.length b_) := (ay aT.out 2).trans rfl; have qV : w9.cell? ⟨bn, 3, none⟩ = some (.int .i64 dB) := (ay aT.out 3).trans rfl; have qU : w9.cell? ⟨bn, 4, none⟩ = some (.int .i64 dG) := (ay aT.out 4).trans rfl; have qR : w9.cell? ⟨bn, 5, none⟩ = some (.slice jC bW.length iV) := (ay aT.out 5).trans rfl; have qQ := az aT.out 0; have qP := az aT.out 1; have qO := az aT.out 2; have qN := az aT.out 3; have qM := az aT.out 4; have qL := az aT.out 5)); go_upto_region 4 with (first | ((with_reducible refine dS (N := 1) rfl ?_); refine dM ?hg (N := 1) ?hd (cs := #[.int .i64 aW, .int .i64 aY, .slice cu aZ.length b_, .int .i64 dB, .int .i64 dG, .slice jC bW.length iV]) (t := 33) ?hr ?_; (case hd => rfl); (case hg => rfl); (case hr => first | (go_simp; done) | (go_simp; rfl)); intro bn hg w5 hbox hb; have bF := aj.mk (aP (by repeat (first | (with_reducible first | exact HB.out | apply ak | apply ah | apply au) | exact HB.out)) hb); have dZ := aj.mk (hbox); have fE := aj.mk ((by rw [hg]; exact (bu (by repeat (first | (with_reducible first | exact HB.out | apply ak | apply ah | apply au) | exact HB.out))) : w.heap.size ≤ bn)); have gu := aj.mk ((by rw [hg]; exact (bu (by repeat (first | (with_reducible first | exact HB.out | apply ak | apply ah | apply au) | exact HB.out))) : w.heap.size ≤ bn)); clear HB; have HB := bF; have aT := dZ; have Vp := fE; have kJ := gu; clear bF dZ fE gu; clear hb hbox hg; have sV : w5.cell? ⟨bn, 0, none⟩ = some (.int .i64 aW) := (ay aT.out 0).trans rfl; have sU : w5.cell? ⟨bn, 1, none⟩ = some (.int .i64 aY) := (ay aT.out 1).trans rfl; have vO : w5.cell? ⟨bn, 2, none⟩ = some (.slice cu aZ.length b_) := (ay aT.out 2).trans rfl; have Bl : w5.cell? ⟨bn, 3, none⟩ = some (.int .i64 dB) := (ay aT.out 3).trans rfl; have Bj : w5.cell? ⟨bn, 4, none⟩ = some (.int .i64 dG) := (ay aT.out 4).trans rfl; have Bi : w5.cell? ⟨bn, 5, none⟩ = some (.slice jC bW.length iV) := (ay aT.out 5).trans rfl; have sS := az aT.out 0; have sQ := az aT.out 1; have vN := az aT.out 2; have AZ := az aT.out 3; have AY := az aT.out 4; have AV := az aT.out 5) | (go_at_call 72; (with_reducible refine (aA.calls k aW aY _ _ aZ t193 _ ?f_ ?fZ A2.out).mono ?_); (case f_ => repeat (first | exact (Kd.gz pg.out HB.out) | (with_reducible refine Kd.jc ?_ _) | (with_reducible refine Kd.iZ ?_ _) | (with_reducible refine Kd.kS ?_))); (case fZ => exact rM.out); rintro e w7 ⟨rfl, hb⟩; have bF := aj.mk (bI (g := bn) (o := .cells #[.int .i64 aW, .int .i64 aY, .slice cu aZ.length b_, .int .i64 dB, .int .i64 dG, .slice jC bW.length iV] 33 (0, 0)) (by (with_reducible repeat (first | refine aG ?_ _ | refine aJ ?_ | refine aH ?_ _)); exact aT.out) hb); have dZ := aj.mk (aP (by repeat (first | (with_reducible first | exact HB.out | apply ak | apply ah | apply au | refine aB ?_ kJ.out) | exact HB.out)) hb); clear aT; clear HB; have aT := bF; have HB := dZ; clear bF dZ; (try clear hb); (try clear hb2); (try clear hk); (try clear hi); have Bh : w7.cell? ⟨bn, 0, none⟩ = some (.int .i64 aW) := (ay aT.out 0).trans rfl; have Bg : w7.cell? ⟨bn, 1, none⟩ = some (.int .i64 aY) := (ay aT.out 1).trans rfl; have Bf : w7.cell? ⟨bn, 2, none⟩ = some (.slice cu aZ.length b_) := (ay aT.out 2).trans rfl; have Be : w7.cell? ⟨bn, 3, none⟩ = some (.int .i64 dB) := (ay aT.out 3).trans rfl; have Bd : w7.cell? ⟨bn, 4, none⟩ = some (.int .i64 dG) := (ay aT.out 4).trans rfl; have Bc : w7.cell? ⟨bn, 5, none⟩ = some (.slice jC bW.length iV) := (ay aT.out 5).trans rfl; have AU := az aT.out 0; have AQ := az aT.out 1; have AP := az aT.out 2; have AO := az aT.out 3; have AL := az aT.out 4; have AB := az aT.out 5) | (go_at_call 72; (with_reducible refine (aA.calls k dB dG _ _ bW t194 _ ?f_ ?fZ A3.out).mono ?_); (case f_ => repeat (first | exact (Kd.gz vG.out HB.out) | (with_reducible refine Kd.jc ?_ _) | (with_reducible refine Kd.iZ ?_ _) | (with_reducible refine Kd.kS ?_))); (case fZ => exact MN.out); rintro e w9 ⟨rfl, hb⟩; have bF := aj.mk (bI (g := bn) (o := .cells #[.int .i64 aW, .int .i64 aY, .slice cu aZ.length b_, .int .i64 dB, .int .i64 dG, .slice jC bW.length iV] 33 (0, 0)) (by (with_reducible repeat (first | refine aG ?_ _ | refine aJ ?_ | refine aH ?_ _)); exact aT.out) hb); have dZ := aj.mk (aP (by repeat (first | (with_reducible first | exact HB.out | apply ak | apply ah | apply au | refine aB ?_ kJ.out) | exact HB.out)) hb); clear aT; clear HB; have aT := bF; have HB := dZ; clear bF dZ; (try clear hb); (try clear hb2); (try clear hk); (try clear hi); have qY : w9.cell? ⟨bn, 0, none⟩ = some (.int .i64 aW) := (ay aT.out 0).trans rfl; have qX : w9.cell? ⟨bn, 1, none⟩ = some (.int .i64 aY) := (ay aT.out 1).trans rfl; have qW : w9.cell? ⟨bn, 2, none⟩ = some (.slice cu aZ.length b_) := (ay aT.out 2).trans rfl; have qV : w9.cell? ⟨bn, 3, none⟩ = some (.int .i64 dB) := (ay aT.out 3).trans rfl; have qU : w9.cell? ⟨bn, 4, none⟩ = some (.int .i64 dG) := (ay aT.out 4).trans rfl; have qR : w9.cell? ⟨bn, 5, none⟩ = some (.slice jC bW.length iV) := (ay aT.out 5).trans rfl; have qQ := az aT.out 0; have qP := az aT.out 1; have qO := az aT.out 2; have qN := az aT.out 3; have qM := az aT.out 4; have qL := az aT.out 5)))
 (try simp only [Act.put, List.setIfInBounds_toArray, List.set_cons_zero, List.set_cons_succ])
 go_cut [42] (fun v42 wc => ∃ (kq : Nat) (KP : Bool), v42 = .bool KP ∧ aj (aI.j0 kq aW KP aW aY aZ dB dG bW = some r) ∧ aj (kq ≤ k) ∧ aj (wc.heap[bn]? = some (.cells #[.int .i64 aW, .int .i64 aY, (.slice cu aZ.length b_), .int .i64 dB, .int .i64 dG, (.slice jC bW.length iV)] 33 (0, 0))) ∧ aj (Below w.heap.size w wc))
 case first =>
  have H := XA.out
  clear XA
  by_cases c11 : t193 = true
  · subst c11
    rw [if_pos rfl] at H
    by_cases c12 : t194 = true
    · subst c12
      rw [if_pos rfl] at H
      by_cases c13 : aY = 1
      · rw [if_pos c13] at H
        have vF : (aY == 1) = true := beq_iff_eq.mpr c13
        have LU : (aY != 1) = false := bne_eq_false_iff_eq.mpr c13
        clear c13
        (first | rw [vF] | (simp only [bY, bZ]; rw [vF]) | skip)
        by_cases c14 : dB = aW
        · rw [if_pos c14] at H
          have nD : (dB == aW) = true := beq_iff_eq.mpr c14
          have rH : (dB != aW) = false := bne_eq_false_iff_eq.mpr c14
          clear c14
          have H' := aj.mk H
          clear H
          have FY : w9.cell? ⟨bn, 0, none⟩ = some (.int .i64 aW) := (ay aT.out 0).trans rfl
          have FW : w9.cell? ⟨bn, 1, none⟩ = some (.int .i64 aY) := (ay aT.out 1).trans rfl
          have FV : w9.cell? ⟨bn, 2, none⟩ = some (.slice cu aZ.length b_) := (ay aT.out 2).trans rfl
          have FU : w9.cell? ⟨bn, 3, none⟩ = some (.int .i64 dB) := (ay aT.out 3).trans rfl
          have FT : w9.cell? ⟨bn, 4, none⟩ = some (.int .i64 dG) := (ay aT.out 4).trans rfl
          have FO : w9.cell? ⟨bn, 5, none⟩ = some (.slice jC bW.length iV) := (ay aT.out 5).trans rfl
          have Fa := az aT.out 0
          have E_ := az aT.out 1
          have E8 := az aT.out 2
          have E5 := az aT.out 3
          have EZ := az aT.out 4
          have EY := az aT.out 5
          go_wp2
          repeat (go_quiet (fail); try go_wp2)
          go_meet
          case rel => exact ⟨_, ((dG != aW)), (by first | rfl | (simp; done) | (simp [*]; done)), H', ⟨by first | omega | exact Nat.le_refl _⟩, ⟨by (with_reducible repeat (first | refine aG ?_ _ | refine aJ ?_ | refine aH ?_ _)); exact aT.out⟩, ⟨by repeat (first | (with_reducible first | exact HB.out | apply ak | apply ah | apply au | refine aB ?_ kJ.out) | exact HB.out)⟩⟩
        · rw [if_neg c14] at H
          have nD : (dB == aW) = false := beq_eq_false_iff_ne.mpr c14
          have rH : (dB != aW) = true := bne_iff_ne.mpr c14
          have H' := aj.mk H
          clear H
          have FM : w9.cell? ⟨bn, 0, none⟩ = some (.int .i64 aW) := (ay aT.out 0).trans rfl
          have FI : w9.cell? ⟨bn, 1, none⟩ = some (.int .i64 aY) := (ay aT.out 1).trans rfl
          have FD : w9.cell? ⟨bn, 2, none⟩ = some (.slice cu aZ.length b_) := (ay aT.out 2).trans rfl
          have FC : w9.cell? ⟨bn, 3, none⟩ = some (.int .i64 dB) := (ay aT.out 3).trans rfl
          have FB : w9.cell? ⟨bn, 4, none⟩ = some (.int .i64 dG) := (ay aT.out 4).trans rfl
          have Fz : w9.cell? ⟨bn, 5, none⟩ = some (.slice jC bW.length iV) := (ay aT.out 5).trans rfl
          have EW := az aT.out 0
          have EU := az aT.out 1
          have ET := az aT.out 2
          have ES := az aT.out 3
          have EO := az aT.out 4
          have EN := az aT.out 5
          go_wp2
          repeat (go_quiet (fail); try go_wp2)
          go_meet
          case rel => exact ⟨_, (true), (by first | rfl | (simp; done) | (simp [*]; done)), H', ⟨by first | omega | exact Nat.le_refl _⟩, ⟨by (with_reducible repeat (first | refine aG ?_ _ | refine aJ ?_ | refine aH ?_ _)); exact aT.out⟩, ⟨by repeat (first | (with_reducible first | exact HB.out | apply ak | apply ah | apply au | refine aB ?_ kJ.out) | exact HB.out)⟩⟩
      · rw [if_neg c13] at H
        have vF : (aY == 1) = false := beq_eq_false_iff_ne.mpr c13
        have LU : (aY != 1) = true := bne_iff_ne.mpr c13
        (first | rw [vF] | (simp only [bY, bZ]; rw [vF]) | skip)
        have H' := aj.mk H
        clear H
        have Fv : w9.cell? ⟨bn, 0, none⟩ = some (.int .i64 aW) := (ay aT.out 0).trans rfl
        have Fq : w9.cell? ⟨bn, 1, none⟩ = some (.int .i64 aY) := (ay aT.out 1).trans rfl
        have Fp : w9.cell? ⟨bn, 2, none⟩ = some (.slice cu aZ.length b_) := (ay aT.out 2).trans rfl
        have Fj : w9.cell? ⟨bn, 3, none⟩ = some (.int .i64 dB) := (ay aT.out 3).trans rfl
        have Fh : w9.cell? ⟨bn, 4, none⟩ = some (.int .i64 dG) := (ay aT.out 4).trans rfl
        have Fg : w9.cell? ⟨bn, 5, none⟩ = some (.slice jC bW.length iV) := (ay aT.out 5).trans rfl
        have EM := az aT.out 0
        have EK := az aT.out 1
        have EJ := az aT.out 2
        have EI := az aT.out 3
        have EG := az aT.out 4
        have EF := az aT.out 5
        go_wp2
        repeat (go_quiet (fail); try go_wp2)
        go_meet
        case rel => exact ⟨_, (true), (by first | rfl | (simp; done) | (simp [*]; done)), H', ⟨by first | omega | exact Nat.le_refl _⟩, ⟨by (with_reducible repeat (first | refine aG ?_ _ | refine aJ ?_ | refine aH ?_ _)); exact aT.out⟩, ⟨by repeat (first | (with_reducible first | exact HB.out | apply ak | apply ah | apply au | refine aB ?_ kJ.out) | exact HB.out)⟩⟩
    · replace c12 := Bool.eq_false_iff.mpr c12
      subst c12
      have H1 : (aI.j0 k aW true aW aY aZ dB dG bW) = some r := by rw [if_neg (show ¬ (false = true) by decide)] at H; exact H
      clear H
      have H := H1
      clear H1
      have H' := aj.mk H
      clear H
      go_wp2
      repeat (go_quiet (fail); try go_wp2)
      go_meet
      case rel => exact ⟨_, (true), (by first | rfl | (simp; done) | (simp [*]; done)), H', ⟨by first | omega | exact Nat.le_refl _⟩, ⟨by (with_reducible repeat (first | refine aG ?_ _ | refine aJ ?_ | refine aH ?_ _)); exact aT.out⟩, ⟨by repeat (first | (with_reducible first | exact HB.out | apply ak | apply ah | apply au | refine aB ?_ kJ.out) | exact HB.out)⟩⟩
  · replace c11 := Bool.eq_false_iff.mpr c11
    subst c11
    have H1 : (aI.j0 k aW true aW aY aZ dB dG bW) = some r := by rw [if_neg (show ¬ (false = true) by decide)] at H; exact H
    clear H
    have H := H1
    clear H1
    have H' := aj.mk H
    clear H
    go_wp2
    repeat (go_quiet (fail); try go_wp2)
    go_meet
    case rel => exact ⟨_, (true), (by first | rfl | (simp; done) | (simp [*]; done)), H', ⟨by first | omega | exact Nat.le_refl _⟩, ⟨by (with_reducible repeat (first | refine aG ?_ _ | refine aJ ?_ | refine aH ?_ _)); exact aT.out⟩, ⟨by repeat (first | (with_reducible first | exact HB.out | apply ak | apply ah | apply au | refine aB ?_ kJ.out) | exact HB.out)⟩⟩
 case rest =>
  clear XA
  try clear c1
  try clear p2
  try clear c4
  try clear c11
  try clear c12
  try clear c13
  try clear vF
  try clear LU
  try clear c14
  try clear nD
  try clear rH
  try clear qY
  try clear qX
  try clear qW
  try clear qV
  try clear qU
  try clear qR
  try clear FY
  try clear FW
  try clear FV
  try clear FU
  try clear FT
  try clear FO
  try clear FM
  try clear FI
  try clear FD
  try clear FC
  try clear FB
  try clear Fz
  try clear Fv
  try clear Fq
  try clear Fp
  try clear Fj
  try clear Fh
  try clear Fg
  try clear sV
  try clear sU
  try clear vO
  try clear Bl
  try clear Bj
  try clear Bi
  try clear Bh
  try clear Bg
  try clear Bf
  try clear Be
  try clear Bd
  try clear Bc
  try clear qQ
  try clear qP
  try clear qO
  try clear qN
  try clear qM
  try clear qL
  try clear Fa
  try clear E_
  try clear E8
  try clear E5
  try clear EZ
  try clear EY
  try clear EW
  try clear EU
  try clear ET
  try clear ES
  try clear EO
  try clear EN
  try clear EM
  try clear EK
  try clear EJ
  try clear EI
  try clear EG
  try clear EF
  try clear sS
  try clear sQ
  try clear vN
  try clear AZ
  try clear AY
  try clear AV
  try clear AU
  try clear AQ
  try clear AP
  try clear AO
  try clear AL
  try clear AB
  obtain ⟨kq, KP, rfl, HA, HJ3, aT, HB⟩ := hcut
  cases kq with
  | zero => exact absurd HA.out (by simp [aI.j0])
  | succ kj3 =>
    have H := HA.out
    clear HA
    simp only [aI.j0] at H
    by_cases c18 : KP = true
    · subst c18
      rw [if_pos rfl] at H
      obtain rfl := Option.some.inj H
      go_wp2
      repeat (go_quiet (fail); try go_wp2)
      go_ret
      exact ⟨by first | rfl | (simp [aN, aK] <;> rfl) | (simp [*, aN, aK] <;> rfl), by repeat (first | (with_reducible first | exact HB.out | apply ak | apply ah | apply au | refine aB ?_ kJ.out) | exact HB.out)⟩
    · replace c18 := Bool.eq_false_iff.mpr c18
      subst c18
      have H1 : (aI.l0 kj3 aW 0 aW aY aZ dB dG bW) = some r := by rw [if_neg (show ¬ (false = true) by decide)] at H; exact H
      clear H
      have H := H1
      clear H1
      have H' := aj.mk H
      clear H
      go_wp2
      repeat (go_quiet (fail); try go_wp2)
      go_loopg [6] kj3 (fun kq v6 w' => ∃ (m_ : Int), v6 = .int .i64 m_ ∧ aj (aI.l0 kq aW m_ aW aY aZ dB dG bW = some r) ∧ aj (kq ≤ kj3) ∧ aj (w'.heap[bn]? = some (.cells #[.int .i64 aW, .int .i64 aY, (.slice cu aZ.length b_), .int .i64 dB, .int .i64 dG, (.slice jC bW.length iV)] 33 (0, 0))) ∧ aj (Below w.heap.size w w'))
      case atStart => exact ⟨(0), (by first | rfl | (simp; done) | (simp [*]; done)), H', ⟨Nat.le_refl _⟩, ⟨by (with_reducible repeat (first | refine aG ?_ _ | refine aJ ?_ | refine aH ?_ _)); exact aT.out⟩, ⟨by repeat (first | (with_reducible first | exact HB.out | apply ak | apply ah | apply au | refine aB ?_ kJ.out) | exact HB.out)⟩⟩
      case round =>
       clear H'
       try clear c1
       try clear p2
       try clear c4
       try clear c11
       try clear c12
       try clear c13
       try clear vF
       try clear LU
       try clear c14
       try clear nD
       try clear rH
       try clear c18
       try clear qY
       try clear qX
       try clear qW
       try clear qV
       try clear qU
       try clear qR
       try clear FY
       try clear FW
       try clear FV
       try clear FU
       try clear FT
       try clear FO
       try clear FM
       try clear FI
       try clear FD
       try clear FC
       try clear FB
       try clear Fz
       try clear Fv
       try clear Fq
       try clear Fp
       try clear Fj
       try clear Fh
       try clear Fg
       try clear sV
       try clear sU
       try clear vO
       try clear Bl
       try clear Bj
       try clear Bi
       try clear Bh
       try clear Bg
       try clear Bf
       try clear Be
       try clear Bd
       try clear Bc
       try clear qQ
       try clear qP
       try clear qO
       try clear qN
       try clear qM
       try clear qL
       try clear Fa
       try clear E_
       try clear E8
       try clear E5
       try clear EZ
       try clear EY
       try clear EW
       try clear EU
       try clear ET
       try clear ES
       try clear EO
       try clear EN
       try clear EM
       try clear EK
       try clear EJ
       try clear EI
       try clear EG
       try clear EF
       try clear sS
       try clear sQ
       try clear vN
       try clear AZ
       try clear AY
       try clear AV
       try clear AU
       try clear AQ
       try clear AP
       try clear AO
       try clear AL
       try clear AB
       try clear p2
       obtain ⟨m_, rfl, HA, KI, aT, HB⟩ := hrel
       cases gk with
       | zero => exact absurd HA.out (by simp [aI.l0])
       | succ k2 =>
         have H := HA.out
         clear HA
         simp only [aI.l0] at H
         by_cases c19 : m_ < aW
         · rw [if_pos c19] at H
           have Vb : decide (m_ < aW) = true := decide_eq_true c19
           clear c19
           obtain ⟨sK, Hz⟩ : ∃ j_ : Int, (wrap64 ((wrap64 (m_ * aW)) + m_)) = j_ := ⟨_, rfl⟩
           replace H : (if 0 ≤ (sK) then (if (sK) < (bW.length : Int) then (if (rd bW (sK)) < 0 then (some false) else (aI.l1 k2 aW m_ 0 aW aY aZ dB dG bW)) else (none)) else (none)) = some r := by first | (rw [Hz] at H; exact H) | (simp only [Hz] at H ⊢; exact H)
           have adn : (IntKind.i64.wrap ((wrap64 (m_ * aW)) + m_)) = sK := (bY _).trans Hz
           by_cases c21 : 0 ≤ (sK)
           · rw [if_pos c21] at H
             have tH : decide (0 ≤ (sK)) = true := decide_eq_true c21
             clear c21
             by_cases CZ : (sK) < (bW.length : Int)
             · rw [if_pos CZ] at H
               have Y4 : decide ((sK) < (bW.length : Int)) = true := decide_eq_true CZ
               clear CZ
               by_cases c23 : (rd bW (sK)) < 0
               · rw [if_pos c23] at H
                 have BH : decide ((rd bW (sK)) < 0) = true := decide_eq_true c23
                 clear c23
                 obtain rfl := Option.some.inj H
                 have LG : wr.cell? ⟨bn, 0, none⟩ = some (.int .i64 aW) := (ay aT.out 0).trans rfl
                 have LD : wr.cell? ⟨bn, 1, none⟩ = some (.int .i64 aY) := (ay aT.out 1).trans rfl
                 have Lu : wr.cell? ⟨bn, 2, none⟩ = some (.slice cu aZ.length b_) := (ay aT.out 2).trans rfl
                 have TG : wr.cell? ⟨bn, 3, none⟩ = some (.int .i64 dB) := (ay aT.out 3).trans rfl
                 have TD : wr.cell? ⟨bn, 4, none⟩ = some (.int .i64 dG) := (ay aT.out 4).trans rfl
                 have Tz : wr.cell? ⟨bn, 5, none⟩ = some (.slice jC bW.length iV) := (ay aT.out 5).trans rfl
                 have Lt := az aT.out 0
                 have Ls := az aT.out 1
                 have Lr := az aT.out 2
                 have Tf := az aT.out 3
                 have Td := az aT.out 4
                 have Tc := az aT.out 5
                 have GZ : 0 ≤ ((sK) : Int) := of_decide_eq_true (by first | (with_reducible assumption) | assumption)
                 have GV : (sK) < (bW.length : Int) := of_decide_eq_true (by first | (with_reducible assumption) | assumption)
                 obtain ⟨yM, e195, oU⟩ := Kd.jm vG.out (sK) GZ GV
                 cases e195
                 replace oU := (HB.out.cell (World.block_lt_of_cell? w _ oU)).trans oU
                 replace GZ := eq_true GZ
                 replace GV := eq_true GV
                 go_wp2
                 repeat (go_quiet (fail); try go_wp2)
                 go_ret
                 exact ⟨by first | rfl | (simp [aN, aK] <;> rfl) | (simp only [← Hz]; first | rfl | (simp [aN, aK] <;> rfl)) | (simp [*, aN, aK] <;> rfl), by repeat (first | (with_reducible first | exact HB.out | apply ak | apply ah | apply au | refine aB ?_ kJ.out) | exact HB.out)⟩
               · rw [if_neg c23] at H
                 have BH : decide ((rd bW (sK)) < 0) = false := decide_eq_false c23
                 clear c23
                 have H' := aj.mk H
                 clear H
                 have Tv : wr.cell? ⟨bn, 0, none⟩ = some (.int .i64 aW) := (ay aT.out 0).trans rfl
                 have Tu : wr.cell? ⟨bn, 1, none⟩ = some (.int .i64 aY) := (ay aT.out 1).trans rfl
                 have Tt : wr.cell? ⟨bn, 2, none⟩ = some (.slice cu aZ.length b_) := (ay aT.out 2).trans rfl
                 have Tq : wr.cell? ⟨bn, 3, none⟩ = some (.int .i64 dB) := (ay aT.out 3).trans rfl
                 have Tn : wr.cell? ⟨bn, 4, none⟩ = some (.int .i64 dG) := (ay aT.out 4).trans rfl
                 have Tm : wr.cell? ⟨bn, 5, none⟩ = some (.slice jC bW.length iV) := (ay aT.out 5).trans rfl
                 have S_ := az aT.out 0
                 have SY := az aT.out 1
                 have SS := az aT.out 2
                 have SQ := az aT.out 3
                 have SN := az aT.out 4
                 have SL := az aT.out 5
                 have GZ : 0 ≤ ((sK) : Int) := of_decide_eq_true (by first | (with_reducible assumption) | assumption)
                 have GV : (sK) < (bW.length : Int) := of_decide_eq_true (by first | (with_reducible assumption) | assumption)
                 obtain ⟨yM, e195, oU⟩ := Kd.jm vG.out (sK) GZ GV
                 cases e195
                 replace oU := (HB.out.cell (World.block_lt_of_cell? w _ oU)).trans oU
                 replace GZ := eq_true GZ
                 replace GV := eq_true GV
                 go_wp2
                 repeat (go_quiet (fail); try go_wp2)
                 go_loopg [7] k2 (fun kq v7 w' => ∃ (pz : Int), v7 = .int .i64 pz ∧ aj (aI.l1 kq aW m_ pz aW aY aZ dB dG bW = some r) ∧ aj (kq ≤ k2) ∧ aj (w'.heap[bn]? = some (.cells #[.int .i64 aW, .int .i64 aY, (.slice cu aZ.length b_), .int .i64 dB, .int .i64 dG, (.slice (some yM) bW.length iV)] 33 (0, 0))) ∧ aj (Below w.heap.size w w'))
                 case atStart => exact ⟨(0), (by first | rfl | (simp; done) | (simp [*]; done)), H', ⟨Nat.le_refl _⟩, ⟨by (with_reducible repeat (first | refine aG ?_ _ | refine aJ ?_ | refine aH ?_ _)); exact aT.out⟩, ⟨by repeat (first | (with_reducible first | exact HB.out | apply ak | apply ah | apply au | refine aB ?_ kJ.out) | exact HB.out)⟩⟩
                 case round =>
                  clear H'
                  try clear c1
                  try clear p1
                  try clear q1
                  try clear hx1
                  try clear c2
                  try clear p2
                  try clear c4
                  try clear p6
                  try clear c11
                  try clear c12
                  try clear c13
                  try clear vF
                  try clear LU
                  try clear c14
                  try clear nD
                  try clear rH
                  try clear c18
                  try clear c19
                  try clear Vb
                  try clear p19
                  try clear q19
                  try clear ahh
                  try clear c21
                  try clear tH
                  try clear CZ
                  try clear Y4
                  try clear c23
                  try clear BH
                  try clear qY
                  try clear qX
                  try clear qW
                  try clear qV
                  try clear qU
                  try clear qR
                  try clear FY
                  try clear FW
                  try clear FV
                  try clear FU
                  try clear FT
                  try clear FO
                  try clear FM
                  try clear FI
                  try clear FD
                  try clear FC
                  try clear FB
                  try clear Fz
                  try clear Fv
                  try clear Fq
                  try clear Fp
                  try clear Fj
                  try clear Fh
                  try clear Fg
                  try clear LG
                  try clear LD
                  try clear Lu
                  try clear TG
                  try clear TD
                  try clear Tz
                  try clear Tv
                  try clear Tu
                  try clear Tt
                  try clear Tq
                  try clear Tn
                  try clear Tm
                  try clear sV
                  try clear sU
                  try clear vO
                  try clear Bl
                  try clear Bj
                  try clear Bi
                  try clear Bh
                  try clear Bg
                  try clear Bf
                  try clear Be
                  try clear Bd
                  try clear Bc
                  try clear qQ
                  try clear qP
                  try clear qO
                  try clear qN
                  try clear qM
                  try clear qL
                  try clear Fa
                  try clear E_
                  try clear E8
                  try clear E5
                  try clear EZ
                  try clear EY
                  try clear EW
                  try clear EU
                  try clear ET
                  try clear ES
                  try clear EO
                  try clear EN
                  try clear EM
                  try clear EK
                  try clear EJ
                  try clear EI
                  try clear EG
                  try clear EF
                  try clear Lt
                  try clear Ls
                  try clear Lr
                  try clear Tf
                  try clear Td
                  try clear Tc
                  try clear S_
                  try clear SY
                  try clear SS
                  try clear SQ
                  try clear SN
                  try clear SL
                  try clear sS
                  try clear sQ
                  try clear vN
                  try clear AZ
                  try clear AY
                  try clear AV
                  try clear AU
                  try clear AQ
                  try clear AP
                  try clear AO
                  try clear AL
                  try clear AB
                  try clear oU
                  try clear GZ
                  try clear p2
                  try clear GV
                  obtain ⟨pz, rfl, HA, HK3, aT, HB⟩ := hrel
                  cases gk with
                  | zero => exact absurd HA.out (by simp [aI.l1])
                  | succ k3 =>
                    have H := HA.out
                    clear HA
                    simp only [aI.l1] at H
                    by_cases DJ : pz < m_
                    · rw [if_pos DJ] at H
                      have yI : decide (pz < m_) = true := decide_eq_true DJ
                      clear DJ
                      obtain ⟨qg, Lp⟩ : ∃ j_ : Int, (wrap64 ((wrap64 (m_ * aW)) + pz)) = j_ := ⟨_, rfl⟩
                      replace H : (if 0 ≤ (qg) then (if (qg) < (bW.length : Int) then (if 0 ≤ (wrap64 ((wrap64 (pz * aW)) + m_)) then (if (wrap64 ((wrap64 (pz * aW)) + m_)) < (bW.length : Int) then (if (rd bW (qg)) = (rd bW (wrap64 ((wrap64 (pz * aW)) + m_))) then (aI.l1 k3 aW m_ (wrap64 (pz + 1)) aW aY aZ dB dG bW) else (some false)) else (none)) else (none)) else (none)) else (none)) = some r := by first | (rw [Lp] at H; exact H) | (simp only [Lp] at H ⊢; exact H)
                      have adm : (IntKind.i64.wrap ((wrap64 (m_ * aW)) + pz)) = qg := (bY _).trans Lp
                      by_cases c28 : 0 ≤ (qg)
                      · rw [if_pos c28] at H
                        have Va : decide (0 ≤ (qg)) = true := decide_eq_true c28
                        clear c28
                        by_cases c29 : (qg) < (bW.length : Int)
                        · rw [if_pos c29] at H
                          have Y1 : decide ((qg) < (bW.length : Int)) = true := decide_eq_true c29
                          clear c29
                          obtain ⟨oh, uX⟩ : ∃ j_ : Int, (wrap64 ((wrap64 (pz * aW)) + m_)) = j_ := ⟨_, rfl⟩
                          replace H : (if 0 ≤ (oh) then (if (oh) < (bW.length : Int) then (if (rd bW (qg)) = (rd bW (oh)) then (aI.l1 k3 aW m_ (wrap64 (pz + 1)) aW aY aZ dB dG bW) else (some false)) else (none)) else (none)) = some r := by first | (rw [uX] at H; exact H) | (simp only [uX] at H ⊢; exact H)
                          have adk : (IntKind.i64.wrap ((wrap64 (pz * aW)) + m_)) = oh := (bY _).trans uX
                          by_cases c31 : 0 ≤ (oh)
                          · rw [if_pos c31] at H
                            have Y0 : decide (0 ≤ (oh)) = true := decide_eq_true c31
                            clear c31
                            by_cases c32 : (oh) < (bW.length : Int)
                            · rw [if_pos c32] at H
                              have afK : decide ((oh) < (bW.length : Int)) = true := decide_eq_true c32
                              clear c32
                              by_cases Ph : (rd bW (qg)) = (rd bW (oh))
                              · rw [if_pos Ph] at H
                                have YZ : ((rd bW (qg)) == (rd bW (oh))) = true := beq_iff_eq.mpr Ph
                                have YY : ((rd bW (qg)) != (rd bW (oh))) = false := bne_eq_false_iff_eq.mpr Ph
                                clear Ph
                                have H' := aj.mk H
                                clear H
                                have abN : wr.cell? ⟨bn, 0, none⟩ = some (.int .i64 aW) := (ay aT.out 0).trans rfl
                                have abM : wr.cell? ⟨bn, 1, none⟩ = some (.int .i64 aY) := (ay aT.out 1).trans rfl
                                have abL : wr.cell? ⟨bn, 2, none⟩ = some (.slice cu aZ.length b_) := (ay aT.out 2).trans rfl
                                have abK : wr.cell? ⟨bn, 3, none⟩ = some (.int .i64 dB) := (ay aT.out 3).trans rfl
                                have abJ : wr.cell? ⟨bn, 4, none⟩ = some (.int .i64 dG) := (ay aT.out 4).trans rfl
                                have abI : wr.cell? ⟨bn, 5, none⟩ = some (.slice (some yM) bW.length iV) := (ay aT.out 5).trans rfl
                                have abe := az aT.out 0
                                have abd := az aT.out 1
                                have abb := az aT.out 2
                                have aba := az aT.out 3
                                have aa_ := az aT.out 4
                                have aa9 := az aT.out 5
                                have Ju : 0 ≤ ((qg) : Int) := of_decide_eq_true (by first | (with_reducible assumption) | assumption)
                                have Jo : (qg) < (bW.length : Int) := of_decide_eq_true (by first | (with_reducible assumption) | assumption)
                                obtain ⟨QW, WI, qI⟩ := Kd.jm vG.out (qg) Ju Jo
                                obtain rfl : yM = QW := (by injection WI)
                                replace qI := (HB.out.cell (World.block_lt_of_cell? w _ qI)).trans qI
                                replace Ju := eq_true Ju
                                replace Jo := eq_true Jo
                                have Jt : 0 ≤ ((oh) : Int) := of_decide_eq_true (by first | (with_reducible assumption) | assumption)
                                have Jn : (oh) < (bW.length : Int) := of_decide_eq_true (by first | (with_reducible assumption) | assumption)
                                obtain ⟨QV, e197, qH⟩ := Kd.jm vG.out (oh) Jt Jn
                                obtain rfl : yM = QV := (by injection e197)
                                replace qH := (HB.out.cell (World.block_lt_of_cell? w _ qH)).trans qH
                                replace Jt := eq_true Jt
                                replace Jn := eq_true Jn
                                go_wp2
                                repeat (go_quiet (fail); try go_wp2)
                                go_roundg k3
                                case measure => have := HJ3.out; have := KI.out; have := HK3.out; omega
                                case rel => exact ⟨(wrap64 (pz + 1)), (by first | rfl | (simp; done) | (simp [*]; done)), H', ⟨by have := HJ3.out; have := KI.out; have := HK3.out; omega⟩, ⟨by (with_reducible repeat (first | refine aG ?_ _ | refine aJ ?_ | refine aH ?_ _)); exact aT.out⟩, ⟨by repeat (first | (with_reducible first | exact HB.out | apply ak | apply ah | apply au | refine aB ?_ kJ.out) | exact HB.out)⟩⟩
                              · rw [if_neg Ph] at H
                                have YZ : ((rd bW (qg)) == (rd bW (oh))) = false := beq_eq_false_iff_ne.mpr Ph
                                have YY : ((rd bW (qg)) != (rd bW (oh))) = true := bne_iff_ne.mpr Ph
                                obtain rfl := Option.some.inj H
                                have abH : wr.cell? ⟨bn, 0, none⟩ = some (.int .i64 aW) := (ay aT.out 0).trans rfl
                                have abG : wr.cell? ⟨bn, 1, none⟩ = some (.int .i64 aY) := (ay aT.out 1).trans rfl
                                have abE : wr.cell? ⟨bn, 2, none⟩ = some (.slice cu aZ.length b_) := (ay aT.out 2).trans rfl
                                have abD : wr.cell? ⟨bn, 3, none⟩ = some (.int .i64 dB) := (ay aT.out 3).trans rfl
                                have abC : wr.cell? ⟨bn, 4, none⟩ = some (.int .i64 dG) := (ay aT.out 4).trans rfl
                                have abB : wr.cell? ⟨bn, 5, none⟩ = some (.slice (some yM) bW.length iV) := (ay aT.out 5).trans rfl
                                have aa8 := az aT.out 0
                                have aa7 := az aT.out 1
                                have aa6 := az aT.out 2
                                have aa5 := az aT.out 3
                                have aa4 := az aT.out 4
                                have aa3 := az aT.out 5
                                have Ju : 0 ≤ ((qg) : Int) := of_decide_eq_true (by first | (with_reducible assumption) | assumption)
                                have Jo : (qg) < (bW.length : Int) := of_decide_eq_true (by first | (with_reducible assumption) | assumption)
                                obtain ⟨QW, WI, qI⟩ := Kd.jm vG.out (qg) Ju Jo
                                obtain rfl : yM = QW := (by injection WI)
                                replace qI := (HB.out.cell (World.block_lt_of_cell? w _ qI)).trans qI
                                replace Ju := eq_true Ju
                                replace Jo := eq_true Jo
                                have Jt : 0 ≤ ((oh) : Int) := of_decide_eq_true (by first | (with_reducible assumption) | assumption)
                                have Jn : (oh) < (bW.length : Int) := of_decide_eq_true (by first | (with_reducible assumption) | assumption)
                                obtain ⟨QV, e197, qH⟩ := Kd.jm vG.out (oh) Jt Jn
                                obtain rfl : yM = QV := (by injection e197)
                                replace qH := (HB.out.cell (World.block_lt_of_cell? w _ qH)).trans qH
                                replace Jt := eq_true Jt
                                replace Jn := eq_true Jn
                                go_wp2
                                repeat (go_quiet (fail); try go_wp2)
                                go_ret
                                exact ⟨by first | rfl | (simp [aN, aK] <;> rfl) | (simp only [← Hz, ← Lp, ← uX]; first | rfl | (simp [aN, aK] <;> rfl)) | (simp [*, aN, aK] <;> rfl), by repeat (first | (with_reducible first | exact HB.out | apply ak | apply ah | apply au | refine aB ?_ kJ.out) | exact HB.out)⟩
                            · rw [if_neg c32] at H
                              exact absurd H (by simp)
                          · rw [if_neg c31] at H
                            exact absurd H (by simp)
                        · rw [if_neg c29] at H
                          exact absurd H (by simp)
                      · rw [if_neg c28] at H
                        exact absurd H (by simp)
                    · rw [if_neg DJ] at H
                      have yI : decide (pz < m_) = false := decide_eq_false DJ
                      clear DJ
                      have H' := aj.mk H
                      clear H
                      go_wp2
                      repeat (go_quiet (fail); try go_wp2)
                      go_roundg k3
                      case measure => have := HJ3.out; have := KI.out; have := HK3.out; omega
                      case rel => exact ⟨(wrap64 (m_ + 1)), (by first | rfl | (simp; done) | (simp [*]; done)), H', ⟨by have := HJ3.out; have := KI.out; have := HK3.out; omega⟩, ⟨by (with_reducible repeat (first | refine aG ?_ _ | refine aJ ?_ | refine aH ?_ _)); exact aT.out⟩, ⟨by repeat (first | (with_reducible first | exact HB.out | apply ak | apply ah | apply au | refine aB ?_ kJ.out) | exact HB.out)⟩⟩
             · rw [if_neg CZ] at H
               exact absurd H (by simp)
           · rw [if_neg c21] at H
             exact absurd H (by simp)
         · rw [if_neg c19] at H
           have Vb : decide (m_ < aW) = false := decide_eq_false c19
           clear c19
           obtain rfl := Option.some.inj H
           go_wp2
           repeat (go_quiet (fail); try go_wp2)
           go_ret
           exact ⟨by first | rfl | (simp [aN, aK] <;> rfl) | (simp [*, aN, aK] <;> rfl), by repeat (first | (with_reducible first | exact HB.out | apply ak | apply ah | apply au | refine aB ?_ kJ.out) | exact HB.out)⟩
end Go.Proofs.Ytnijhjbcjeohhaa.PQ

namespace Go.Proofs.Ytnijhjbcjeohhaa.PQ
open Go.RowKit Go.Proofs.af.aO Go.Proofs.af.aU Go.Proofs.af.aV
attribute [local go_sem] gW gU jq jo fP fO gV gQ
set_option linter.unusedVariables false
set_option linter.unusedSimpArgs false
end Go.Proofs.Ytnijhjbcjeohhaa.PQ

namespace Go.Proofs.Ytnijhjbcjeohhaa.PQ
open Go.RowKit Go.Proofs.af.aO Go.Proofs.af.aU Go.Proofs.af.aV
attribute [local go_sem] gW gU jq jo fP fO gV gQ
set_option linter.unusedVariables false
set_option linter.unusedSimpArgs false
end Go.Proofs.Ytnijhjbcjeohhaa.PQ

namespace Go.Proofs.Ytnijhjbcjeohhaa.KK
open Go.RowKit Go.Proofs.af.aO Go.Proofs.af.aU Go.Proofs.af.aV
set_option linter.unusedVariables false
set_option linter.unusedSimpArgs false
abbrev I (n : Int) : Value := .int .i64 n
def Row (w : World) (B : Nat) (t : TypeId) (cs : Array Value) : Prop := w.heap[B]? = some (.cells cs t (0, 0))
section
variable {w w' : World} {B : Nat} {t : TypeId} {cs : Array Value}
theorem Row.cell (h : Row w B t cs) (i : Nat) : w.cell? ⟨B, i, none⟩ = cs[i]? := by unfold Row at h; simp [World.cell?, h]
theorem Row.free (h : Row w B t cs) (i : Nat) : w.frozen? ⟨B, i, none⟩ = false := by unfold Row at h; simp [World.frozen?, h]
theorem Row.lt (h : Row w B t cs) : B < w.heap.size := by
 rcases Nat.lt_or_ge B w.heap.size with hl | hl
 · exact hl
 · unfold Row at h; rw [Array.getElem?_eq_none hl] at h; cases h
theorem Row.new (w : World) (t : TypeId) (cs : Array Value) : Row (w.alloc (.cells cs t)) w.heap.size t cs := heap_alloc_new w _
theorem Row.alloc (h : Row w B t cs) (o : Obj) : Row (w.alloc o) B t cs := (Below.heap_alloc w o B h.lt).trans h
theorem Row.drew (h : Row w B t cs) : Row w.drew B t cs := h
theorem Row.below {n : Nat} (h : Row w B t cs) (hb : Below n w w') (hn : B < n) : Row w' B t cs := (hb.block B hn).trans h
theorem Row.set (h : Row w B t cs) (i : Nat) (u : Value) : Row (w.setCell ⟨B, i, none⟩ u) B t (cs.setIfInBounds i u) := by
 unfold Row at h ⊢
 simp [World.setCell, Array.getElem?_modify, h]
theorem Row.far (h : Row w B t cs) {p : Addr} (hp : B ≠ p.block) (u : Value) : Row (w.setCell p u) B t cs := (Below.heap_setCell w p u B hp).trans h
theorem Row.grown {r : Option Nat} (h : Row w B t cs) (hg : w.grownBy w' r) (hr : some B ≠ r) : Row w' B t cs := (hg.block B h.lt hr).trans h
end
theorem dA {w w1 : World} (hb : Below w.heap.size w w1) (r : Option Nat) : w.grownBy w1 r := ⟨hb.os, hb.tape, hb.output, hb.size, fun k hk _ => hb.block k hk⟩
theorem bG {w w1 w2 : World} {r : Option Nat} (h : w.grownBy w1 r) (h' : w1.grownBy w2 r) : w.grownBy w2 r :=
 ⟨h'.os.trans h.os, h'.tape.trans h.tape, h'.output.trans h.output, Nat.le_trans h.size h'.size, fun k hk hr => (h'.block k (Nat.lt_of_lt_of_le hk h.size) hr).trans (h.block k hk hr)⟩
theorem cell_lt {w : World} {a : Addr} {v : Value} (h : w.cell? a = some v) : a.block < w.heap.size := by
 rcases Nat.lt_or_ge a.block w.heap.size with hl | hl
 · exact hl
 · simp [World.cell?, Array.getElem?_eq_none hl] at h
theorem rC (a : Addr) (n : Nat) : (a.add n).block = a.block := by unfold Addr.add; split <;> rfl
theorem wu {w : World} {a : Addr} {v : Value} (h : w.cell? a = some v) : a = ⟨a.block, a.off, none⟩ := by
 obtain ⟨b, o, s⟩ := a
 unfold World.cell? at h
 split at h
 · split at h
   · cases h
   · rename_i hs; cases s with
     | none => rfl
     | some y => simp at hs
 · cases h
def Rows (w : World) : Nat → List (TypeId × Array Value) → Prop
 | _, [] => True
 | b, x :: l => Row w b x.1 x.2 ∧ Rows w (b + 1) l
section
variable {w w' w0 : World} {b : Nat} {L : List (TypeId × Array Value)}
theorem Rows.imp (h : ∀ k t cs, b ≤ k → k < b + L.length → Row w k t cs → Row w' k t cs) (H : Rows w b L) : Rows w' b L := by
 induction L generalizing b with
 | nil => trivial
 | cons x l ih =>
   refine ⟨h b _ _ (Nat.le_refl _) (by simp) H.1, ih (fun k t cs h1 h2 => h k t cs (by omega) (by simp; omega)) H.2⟩
theorem Rows.le (H : Rows w b L) (hb : b ≤ w.heap.size) : b + L.length ≤ w.heap.size := by
 induction L generalizing b with
 | nil => simpa using hb
 | cons x l ih => have := ih H.2 H.1.lt; simp; omega
theorem Rows.alloc (h : Rows w b L) (o : Obj) : Rows (w.alloc o) b L := h.imp fun _ _ _ _ _ r => r.alloc o
theorem Rows.drew (h : Rows w b L) : Rows w.drew b L := h.imp fun _ _ _ _ _ r => r.drew
theorem Rows.below (h : Rows w b L) (hb : Below w.heap.size w w') : Rows w' b L := h.imp fun _ _ _ _ _ r => r.below hb r.lt
theorem Rows.wB (j : Nat) (t : TypeId) (cs : Array Value) (hr : Row w' (b + j) t cs) (h : ∀ k t cs, k ≠ b + j → Row w k t cs → Row w' k t cs) (H : Rows w b L) : Rows w' b (L.set j (t, cs)) := by
 induction L generalizing b j with
 | nil => trivial
 | cons x l ih =>
   cases j with
   | zero => exact ⟨hr, H.2.imp fun k t cs h1 h2 => h k t cs (by omega)⟩
   | succ j => exact ⟨h _ _ _ (by omega) H.1, ih j (by rwa [Nat.add_assoc, Nat.add_comm 1]) (fun k t cs h1 => h k t cs (by omega)) H.2⟩
theorem Rows.push (H : Rows w b L) (h : w.heap.size = b + L.length) (t : TypeId) (cs : Array Value) : Rows (w.alloc (.cells cs t)) b (L ++ [(t, cs)]) := by
 have := (H.alloc (.cells cs t))
 have e := Row.new w t cs
 rw [h] at e
 clear H h
 induction L generalizing b with
 | nil => exact ⟨e, trivial⟩
 | cons x l ih => exact ⟨this.1, ih this.2 (by simp only [List.length_cons] at e; rwa [Nat.add_assoc, Nat.add_comm 1])⟩
end
structure aX (w0 : World) (L : List (TypeId × Array Value)) (w : World) : Prop where
 rows : Rows w w0.heap.size L
 be : Below w0.heap.size w0 w
section
variable {w w' w0 : World} {L : List (TypeId × Array Value)}
theorem aX.none (w : World) : aX w [] w := ⟨trivial, Below.refl _ w⟩
theorem aX.push (h : aX w0 L w) (e : w.heap.size = w0.heap.size + L.length) (t : TypeId) (cs : Array Value) : aX w0 (L ++ [(t, cs)]) (w.alloc (.cells cs t)) :=
 ⟨h.rows.push e t cs, h.be.alloc h.be.size _⟩
theorem aX.alloc (h : aX w0 L w) (o : Obj) : aX w0 L (w.alloc o) := ⟨h.rows.alloc o, h.be.alloc h.be.size o⟩
theorem aX.drew (h : aX w0 L w) : aX w0 L w.drew := ⟨h.rows.drew, h.be.drew⟩
theorem aX.below (h : aX w0 L w) (hb : Below w.heap.size w w') : aX w0 L w' := ⟨h.rows.below hb, h.be.trans (hb.mono h.be.size)⟩
theorem aX.put (j : Nat) (h : aX w0 L w) (t : TypeId) (cs : Array Value) (hr : Row w (w0.heap.size + j) t cs) (i : Nat) (u : Value) : aX w0 (L.set j (t, cs.setIfInBounds i u)) (w.setCell ⟨w0.heap.size + j, i, .none⟩ u) :=
 ⟨h.rows.wB j t _ (hr.set i u) fun k t cs hk r => r.far (by simpa using hk) u, h.be.setCell (by simp) u⟩
variable {x0 x1 x2 x3 x4 x5 : TypeId × Array Value}
theorem aX.r0 (h : aX w0 (x0 :: L) w) : Row w w0.heap.size x0.1 x0.2 := h.rows.1
theorem aX.r1 (h : aX w0 (x0 :: x1 :: L) w) : Row w (w0.heap.size + 1) x1.1 x1.2 := h.rows.2.1
theorem aX.r2 (h : aX w0 (x0 :: x1 :: x2 :: L) w) : Row w (w0.heap.size + 1 + 1) x2.1 x2.2 := h.rows.2.2.1
theorem aX.r3 (h : aX w0 (x0 :: x1 :: x2 :: x3 :: L) w) : Row w (w0.heap.size + 1 + 1 + 1) x3.1 x3.2 := h.rows.2.2.2.1
theorem aX.r4 (h : aX w0 (x0 :: x1 :: x2 :: x3 :: x4 :: L) w) : Row w (w0.heap.size + 1 + 1 + 1 + 1) x4.1 x4.2 := h.rows.2.2.2.2.1
theorem aX.r5 (h : aX w0 (x0 :: x1 :: x2 :: x3 :: x4 :: x5 :: L) w) : Row w (w0.heap.size + 1 + 1 + 1 + 1 + 1) x5.1 x5.2 := h.rows.2.2.2.2.2.1
end
theorem aX.app {w0 w w' : World} {L : List (TypeId × Array Value)} {r : Option Nat} (h : aX w0 L w) (hg : w.grownBy w' r) (hr : ∀ g, r = some g → w0.heap.size + L.length ≤ g) : aX w0 L w' :=
 ⟨h.rows.imp fun k t cs _ hk r' => r'.grown hg (fun e => by have := hr k e.symm; omega), ⟨hg.os.trans h.be.os, hg.tape.trans h.be.tape, hg.output.trans h.be.output, Nat.le_trans h.be.size hg.size, fun k hk => (hg.block k (Nat.lt_of_lt_of_le hk h.be.size) (fun e => by have := hr k e.symm; omega)).trans (h.be.block k hk)⟩⟩
abbrev Rd (w : World) (A : Option Addr) (l : List Int) : Prop := Kd.C (Kd.int .i64) w A l.length l
abbrev Own (w : World) (base : Nat) (v : Value) (l : List Int) : Prop := Kd.R (Kd.int .i64) 22 w base (fun _ => True) v l
theorem Rd.cells {w : World} {A : Option Addr} {l : List Int} (h : Rd w A l) (hne : 0 < l.length) : ∃ b off, A = some ⟨b, off, none⟩ ∧ b < w.heap.size ∧ ∀ (j : Nat) (x : Int), l[j]? = some x → w.cell? ⟨b, off + j, none⟩ = some (I x) := by
 obtain ⟨ad, rfl, hc⟩ := h.2.2 hne
 have key : ∀ (j : Nat) (x : Int), l[j]? = some x → w.cell? (ad.add j) = some (I x) := fun j x hx => by
  obtain ⟨c, _, hr, hcell⟩ := hc j x hx
  have e : c = [I x] := hr
  subst e
  have h1 : (Kd.int .i64).sz = 1 := rfl
  have := hcell 0 _ rfl
  rw [h1, Nat.mul_one, Nat.add_zero] at this
  exact this
 have h0 := key 0 _ (List.getElem?_eq_getElem hne)
 have ea0 : ad.add 0 = ad := by simp [Addr.add]
 rw [ea0] at h0
 have hs := wu h0
 have hl := cell_lt h0
 obtain ⟨ab, ao, asp⟩ := ad
 injection hs with _ _ hs
 subst hs
 refine ⟨ab, ao, rfl, hl, fun j x hx => ?_⟩
 have := key j x hx
 unfold Addr.add at this
 by_cases hj : j = 0
 · subst hj
   rw [if_pos rfl] at this
   exact this
 · rw [if_neg hj] at this
   exact this
theorem Rd.nil (w : World) (A : Option Addr) : Rd w A [] := ⟨rfl, by show (0:Nat) ≤ _; omega, fun h => absurd h (Nat.lt_irrefl 0)⟩
theorem Rd.below {w w' : World} {A : Option Addr} {l : List Int} (h : Rd w A l) (hb : Below w.heap.size w w') : Rd w' A l := Kd.gz h hb
theorem Own.reads {w : World} {base : Nat} {v : Value} {l : List Int} (h : Own w base v l) : ∃ A c, v = .slice A l.length c ∧ l.length ≤ c ∧ Rd w A l := Kd.zH h
theorem Own.below {w w' : World} {base : Nat} {v : Value} {l : List Int} (h : Own w base v l) (hb : Below w.heap.size w w') : Own w' base v l := Kd.nN h hb
theorem Own.lower {w : World} {base base' : Nat} {v : Value} {l : List Int} (h : Own w base v l) (hb : base' ≤ base) : Own w base' v l := Kd.nM h hb
theorem Own.row {w : World} {base : Nat} {v : Value} {l : List Int} (h : Own w base v l) : w.ownsRow base 22 1 v l.length (l.map I) := by
 exact Kd.z_ (enc := I) h
theorem Own.sH {w : World} {base : Nat} {v : Value} {l : List Int} (h : w.ownsRow base 22 1 v l.length (l.map I)) : Own w base v l := Kd.IK (enc := I) h (fun _ _ => trivial)
end Go.Proofs.Ytnijhjbcjeohhaa.KK

namespace Go.Proofs.Ytnijhjbcjeohhaa.KK
open Go.RowKit Go.Proofs.af.aO Go.Proofs.af.aU Go.Proofs.af.aV
set_option linter.unusedVariables false
set_option linter.unusedSimpArgs false
theorem Jm : (Try.prog.info? 22).map (fun i => (i.zero, i.size, i.bytes)) = some (some (I 0), 1, 8) := by kernel_rfl
theorem Gn (w : World) {ops : Array Oper} {rest : List Oper} {o : Oper} {a : Act} {Q : Exit → Act → World → Prop} (hgd : o.guard = none) (s x : Operand)
 (ho : o.op = .call { callee := .builtin .append, args := #[s, x], argTypes := #[29, 29] })
 (base : Nat) (v : Value) (l : List Int) (q : Int) (bx : Nat) (hs : a.eval s = v) (hx : a.eval x = .slice (some ⟨bx, 0, none⟩) 1 1) (hown : Own w base v l) (hc : w.cell? ⟨bx, 0, none⟩ = some (I q)) (hbase : base ≤ w.heap.size) (hlen : l.length ≤ 1000000)
 (h : ∀ A c w', Own w' base (.slice A (l.length + 1) c) (l ++ [q]) → w.grownBy w' v.ownBlock → ((Value.slice A (l.length + 1) c).ownBlock = v.ownBlock ∨ (Value.slice A (l.length + 1) c).ownBlock = some w.heap.size) → wpList Try.prog ops Q rest (a.put o.dst (.slice A (l.length + 1) c)) w') :
 wpList Try.prog ops Q (o :: rest) a w := by
 obtain ⟨i0, hi0, hz0, hz1, hz2⟩ := info_parts Jm
 refine wpList_append_own_at w hgd s x 29 ho base 22 i0 (I 0) 1 8 Try.underlying29 hi0 hz0 hz1 hz2 rfl (by omega) v l.length (l.map I) hs hown.row ⟨bx, 0, none⟩ 1 1 [I q] hx rfl ?_ ?_ (by simp only [maxLen]; omega) (by omega) hbase ?_
 · intro j u hj
   match j, hj with
   | 0, hj =>
     simp at hj
     subst hj
     simpa [Addr.add] using hc
 · intro u hu
   simp at hu
   subst hu
   rfl
 · intro v' w' hown' hg _ hat
   have hl : (l ++ [q]).length = l.length + 1 := by simp
   have ho2 : Own w' base v' (l ++ [q]) := Own.sH (by rw [hl, List.map_append]; exact hown')
   obtain ⟨A, c, rfl, _, _⟩ := ho2.reads
   rw [hl] at ho2 hat ⊢
   exact h A c w' ho2 hg hat
theorem gX {l : List Int} {j : Nat} (h : j < l.length) : l[j]? = some (l.getD j 0) := by
 rw [List.getD_eq_getElem?_getD, List.getElem?_eq_getElem h]; rfl
theorem kH (r : Int) (c : Nat) (A : Option Addr) (cap : Nat) (l : List Int) (i k : Nat) (w : World) (hl : Rd w A l) (h : i * c + k < l.length) (hle : l.length ≤ 1000000) :
 Calls Try.prog 110 #[.agg #[I r, I c, .slice A l.length cap], I i, I k] w fun e w' => e = .returned (I (l.getD (i * c + k) 0)) ∧ Below w.heap.size w w' := by
 obtain ⟨b, off, rfl, hb, hc⟩ := hl.cells (by omega)
 have x := hc _ _ (gX h)
 have hb0 : Hid (Below w.heap.size w (w.alloc (.cells #[I r, I c, .slice (some ⟨b, off, none⟩) l.length cap] 31))) := Lib.hid ((Below.refl _ _).alloc (Nat.le_refl _) _)
 obtain ⟨q, hq⟩ : ∃ q, l.getD (i * c + k) 0 = q := ⟨_, rfl⟩
 rw [hq] at x ⊢
 obtain ⟨p, hp⟩ : ∃ p : Nat, i * c = p := ⟨_, rfl⟩
 have hp2 : (i : Int) * (c : Int) = (p : Int) := by rw [← hp]; push_cast; rfl
 have hw1 : IntKind.i64.wrap ((i : Int) * (c : Int)) = (p : Int) := by rw [hp2]; simp [IntKind.wrap, IntKind.bits, IntKind.signed]; omega
 rw [hp] at x h
 have hw2 : IntKind.i64.wrap ((p : Int) + (k : Int)) = ((p + k : Nat) : Int) := by simp [IntKind.wrap, IntKind.bits, IntKind.signed]; omega
 obtain ⟨j, hj⟩ : ∃ j : Nat, p + k = j := ⟨_, rfl⟩
 rw [hj] at x h hw2
 have hj0 : (0 : Int) ≤ (j : Int) := by omega
 have hj1 : (j : Int) < l.length := by omega
 clear hq hp hp2 hj hc hl h
 go_enter Try.func110, Try.ntmps110
 go_wp2
 go_ret
 exact ⟨rfl, hb0.out⟩
end Go.Proofs.Ytnijhjbcjeohhaa.KK

