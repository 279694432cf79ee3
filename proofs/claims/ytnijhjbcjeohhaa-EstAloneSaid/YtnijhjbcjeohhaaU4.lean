import Derived.Test.YtnijhjbcjeohhaaU2
import Derived.Test.YtnijhjbcjeohhaaU3
/- Joined and thinned by a program of this session's own (wip/pack2.py) out of its texts (wip/ of its repo); parts were laid by its own program (wip/print-patch.py over the kit's print) out of the translation; Lean checks all. -/
set_option maxRecDepth 100000
set_option maxHeartbeats 8000000
namespace Go.Proofs.Ytnijhjbcjeohhaa.PQ
open Go.RowKit Go.Proofs.af.aO Go.Proofs.af.aV Go.Proofs.af.aX
attribute [local go_sem] iU iR jU jT gY gX iT iQ
set_option linter.unusedVariables false
set_option linter.unusedSimpArgs false
attribute [local go_sem high] UM
def iy.f (k : Nat) (aT : Int) (aZ : Int) (aY : List Int) (bH : Int) (bI : Int) (bu : List Int) : Option (Bool) := (oO.f aT aZ aY).bind fun KP => ((oO.f bH bI bu).bind fun Bf => (if (KP.1 == Bf.1 && (KP.2 == Bf.2)) = true then ((eF.f k aY bu).bind fun t164 => (some t164)) else (some false)))
def iy.T1 : Bool × List (List Nat × List Nat) := (true, [([], []), ([0], [0]), ([], []), ([2, 1], [2]), ([1, 3], [1, 3]), ([4, 3], [4]), ([5], [5]), ([6, 5], [5, 6]), ([5], [5]), ([8, 5], [5, 8]), ([7, 9, 5, 5], [5, 7, 9]), ([5, 10], [5, 10]), ([11, 10, 0, 1, 2, 3, 4, 5, 6, 7, 8, 9, 10, 11], [11])])
def iy.B1 : List Nat := [0, 1, 0, 7, 15, 31, 63, 127, 63, 319, 1023, 2047, 4095]
theorem iy.VT : qh .any (opsOf Try.f76 1) = iy.T1 := by kernel_rfl
theorem iy.P5 : tJ iy.T1.2 iy.B1 = true := by kernel_rfl
theorem iy.calls (k : Nat) (aT : Int) (aZ : Int) (bK : Option Addr) (bJ : Nat) (aY : List Int) (bH : Int) (bI : Int) (eG : Option Addr) (eH : Nat) (bu : List Int) (r : Bool) (w : World) (iV : Kd.C (Kd.int .i64) w bK aY.length aY) (jy : aY.length ≤ bJ) (m_ : Kd.C (Kd.int .i64) w eG bu.length bu) (nS : bu.length ≤ eH) (h : iy.f k aT aZ aY bH bI bu = some r) :
 Calls Try.prog 76 #[.agg #[.int .i64 aT, .int .i64 aZ, .slice bK aY.length bJ], .agg #[.int .i64 bH, .int .i64 bI, .slice eG bu.length eH]] w fun e w' => e = .returned (.bool r) ∧ Below w.heap.size w w' := by
 have Ig := Try.underlying31
 have mG := aj.mk iV
 have oV := aj.mk jy
 clear iV jy
 have tq := aj.mk m_
 have wz := aj.mk nS
 clear m_ nS
 have HB := aj.mk (Below.refl w.heap.size w)
 have H : ((oO.f aT aZ aY).bind fun KP => ((oO.f bH bI bu).bind fun Bf => (if (KP.1 == Bf.1 && (KP.2 == Bf.2)) = true then ((eF.f k aY bu).bind fun t164 => (some t164)) else (some false)))) = some r := h
 clear h
 replace H := Option.bind_eq_some_iff.mp H
 obtain ⟨⟨t160, t161⟩, BD, H⟩ := H
 replace H : ((oO.f bH bI bu).bind fun Bf => (if (t160 == Bf.1 && (t161 == Bf.2)) = true then ((eF.f k aY bu).bind fun t164 => (some t164)) else (some false))) = some r := H
 have A3 := aj.mk BD
 clear BD
 replace H := Option.bind_eq_some_iff.mp H
 obtain ⟨⟨t162, t163⟩, Lh, H⟩ := H
 replace H : (if (t160 == t162 && (t161 == t163)) = true then ((eF.f k aY bu).bind fun t164 => (some t164)) else (some false)) = some r := H
 have A4 := aj.mk Lh
 clear Lh
 by_cases c5 : (t160 == t162 && (t161 == t163)) = true
 · rw [if_pos c5] at H
   have BM : (t160 == t162 && (t161 == t163)) = true := c5
   (try (have ahI : decide (t160 = t162 && (t161 == t163)) = true := by simpa using c5))
   (try (have ahH : (t160 == t162 && (t161 == t163)) = true := by simpa using c5))
   clear c5
   replace H := Option.bind_eq_some_iff.mp H
   obtain ⟨t164, YS, H⟩ := H
   replace H : (some t164) = some r := H
   have A6 := aj.mk YS
   clear YS
   obtain rfl := Option.some.inj H
   go_enter Try.func76, Try.ntmps76
   try go_wp2_with (first | ((with_reducible refine dH (N := 2) rfl ?_); refine cu ?hg (N := 2) ?hd (cs := #[.int .i64 aT, .int .i64 aZ, .slice bK aY.length bJ]) (t := 31) ?hr ?_; (case hd => rfl); (case hg => rfl); (case hr => first | (go_simp; done) | (go_simp; rfl)); intro jI hg w7 hbox hb; have bF := aj.mk (aP (by repeat (first | (with_reducible first | exact HB.out | apply ak | apply ah | apply au) | exact HB.out)) hb); have dS := aj.mk (hbox); have eu := aj.mk ((by rw [hg]; exact (bf (by repeat (first | (with_reducible first | exact HB.out | apply ak | apply ah | apply au) | exact HB.out))) : w.heap.size ≤ jI)); have fM := aj.mk ((by rw [hg]; exact (bf (by repeat (first | (with_reducible first | exact HB.out | apply ak | apply ah | apply au) | exact HB.out))) : w.heap.size ≤ jI)); clear HB; have HB := bF; have dZ := dS; have adJ := eu; have tC := fM; clear bF dS eu fM; clear hb hbox hg) | ((with_reducible refine dH (N := 3) rfl ?_); refine cu ?hg (N := 3) ?hd (cs := #[.int .i64 bH, .int .i64 bI, .slice eG bu.length eH]) (t := 31) ?hr ?_; (case hd => rfl); (case hg => rfl); (case hr => first | (go_simp; done) | (go_simp; rfl)); intro nJ hg w8 hbox hb; have bF := aj.mk (bz (g := jI) (o := .cells #[.int .i64 aT, .int .i64 aZ, .slice bK aY.length bJ] 31 (0, 0)) (by (with_reducible repeat (first | refine aB ?_ _ | refine aF ?_ | refine aC ?_ _)); exact dZ.out) hb); have dS := aj.mk (aP (by repeat (first | (with_reducible first | exact HB.out | apply ak | apply ah | apply au | refine aA ?_ tC.out) | exact HB.out)) hb); have eu := aj.mk (hbox); have fM := aj.mk ((by rw [hg]; exact (bf (by repeat (first | (with_reducible first | exact HB.out | apply ak | apply ah | apply au | refine aA ?_ tC.out) | exact HB.out))) : w.heap.size ≤ nJ)); have jR := aj.mk ((by rw [hg]; exact (bf (by repeat (first | (with_reducible first | exact HB.out | apply ak | apply ah | apply au | refine aA ?_ tC.out) | exact HB.out))) : w.heap.size ≤ nJ)); have kD := aj.mk ((by rw [hg]; exact Nat.ne_of_lt (dY (g := jI) (o := .cells #[.int .i64 aT, .int .i64 aZ, .slice bK aY.length bJ] 31 (0, 0)) (by (with_reducible repeat (first | refine aB ?_ _ | refine aF ?_ | refine aC ?_ _)); exact dZ.out)) : jI ≠ nJ)); have kW := aj.mk ((by rw [hg]; exact Nat.ne_of_gt (dY (g := jI) (o := .cells #[.int .i64 aT, .int .i64 aZ, .slice bK aY.length bJ] 31 (0, 0)) (by (with_reducible repeat (first | refine aB ?_ _ | refine aF ?_ | refine aC ?_ _)); exact dZ.out)) : nJ ≠ jI)); clear dZ; clear HB; have dZ := bF; have HB := dS; have fK := eu; have adI := fM; have ET := jR; have Sz := kD; have Sv := kW; clear bF dS eu fM jR kD kW; clear hb hbox hg))
   have bF := aj.mk (aF dZ.out)
   have dS := aj.mk (aF fK.out)
   have eu := aj.mk (au HB.out)
   clear dZ
   clear fK
   clear HB
   have dZ := bF
   have fK := dS
   have HB := eu
   clear bF dS eu
   refine Hl (n := 13) (S := fun w' => w'.cell? ⟨jI, 0, none⟩ = some (.int .i64 aT) ∧ w'.cell? ⟨jI, 1, none⟩ = some (.int .i64 aZ) ∧ w'.cell? ⟨jI, 2, none⟩ = some (.slice bK aY.length bJ) ∧ w'.cell? ⟨nJ, 0, none⟩ = some (.int .i64 bH) ∧ w'.cell? ⟨nJ, 1, none⟩ = some (.int .i64 bI) ∧ w'.cell? ⟨nJ, 2, none⟩ = some (.slice eG bu.length eH)) (ds := []) #[false, false, false, false, false, false, false, false, false, false, false, false, false] (by kernel_rfl) rfl rfl ⟨(az dZ.out 0).trans rfl, (az dZ.out 1).trans rfl, (az dZ.out 2).trans rfl, (az fK.out 0).trans rfl, (az fK.out 1).trans rfl, (az fK.out 2).trans rfl⟩ (fun hHeld => ?_); refine wL iy.VT iy.P5 (fun kP La => ?_)
   generalize w8.drew = w9 at dZ fK HB hHeld ⊢
   refine qN (i := 0) (N := some 5) (v := ?_) (a' := ?_) #[true, false, false, false, false, false, false, false, false, false, false, false, false] rfl rfl (iL kP.out La.out (by kernel_rfl)) (fun _ _ _ h => h) (Or.inl ⟨by rfl, ?_⟩) hHeld ?_ ?_
   rotate_left
   · rintro w' ⟨s0, s1, s2, s3, s4, s5⟩
     go_simp
     with_reducible rfl
   rotate_left
   · simp only [Act.put, List.setIfInBounds_toArray, List.set_cons_zero, List.set_cons_succ, dA, dB]
     rfl
   refine qN (i := 2) (N := some 7) (v := ?_) (a' := ?_) #[true, false, true, false, false, false, false, false, false, false, false, false, false] rfl rfl (iL kP.out La.out (by kernel_rfl)) (fun _ _ _ h => h) (Or.inl ⟨by rfl, ?_⟩) hHeld ?_ ?_
   rotate_left
   · rintro w' ⟨s0, s1, s2, s3, s4, s5⟩
     go_simp
     with_reducible rfl
   rotate_left
   · simp only [Act.put, List.setIfInBounds_toArray, List.set_cons_zero, List.set_cons_succ, dA, dB]
     rfl
   refine Dw (i := 1) (N := some 6) #[true, true, true, false, false, false, false, false, false, false, false, false, false] rfl rfl (oN kP.out (by kernel_rfl)) (by decide) (fun K hK => ?_)
   refine xN Try.func107 (by kernel_rfl) rfl #[.agg #[.int .i64 aT, .int .i64 aZ, .slice bK aY.length bJ]] (by rfl) rfl rfl (by (try simp only [List.map_toArray, List.map_cons, List.map_nil]); first | done | rfl | (simp only [List.length_drop, List.length_take]; rfl)) ?_
   with_reducible refine (oO.calls aT aZ _ _ aY t160 t161 _ ?fU ?fQ A3.out).mono ?_
   (case fU => repeat (first | exact (Kd.fO mG.out HB.out) | (with_reducible refine Kd.gK ?_ _) | (with_reducible refine Kd.gJ ?_ _) | (with_reducible refine Kd.jh ?_)))
   (case fQ => exact oV.out)
   rintro e w10 ⟨rfl, hb⟩
   refine ⟨_, rfl, ?_⟩
   have bF := aj.mk (bz (g := jI) (o := .cells #[.int .i64 aT, .int .i64 aZ, .slice bK aY.length bJ] 31 (0, 0)) (by (with_reducible repeat (first | refine aB ?_ _ | refine aF ?_ | refine aC ?_ _)); exact dZ.out) hb)
   have dS := aj.mk (bz (g := nJ) (o := .cells #[.int .i64 bH, .int .i64 bI, .slice eG bu.length eH] 31 (0, 0)) (by (with_reducible repeat (first | refine aB ?_ _ | refine aF ?_ | refine aC ?_ _)); exact fK.out) hb)
   have eu := aj.mk (aP (by repeat (first | (with_reducible first | exact HB.out | apply ak | apply ah | apply au | refine aA ?_ tC.out | refine aA ?_ ET.out) | exact HB.out)) hb)
   clear dZ
   clear fK
   clear HB
   have dZ := bF
   have fK := dS
   have HB := eu
   clear bF dS eu
   (try clear hb)
   (try clear hb2)
   (try clear hk)
   (try clear hi)
   refine hK.out _ _ ⟨(az dZ.out 0).trans rfl, (az dZ.out 1).trans rfl, (az dZ.out 2).trans rfl, (az fK.out 0).trans rfl, (az fK.out 1).trans rfl, (az fK.out 2).trans rfl⟩ (fun hHeld => ?_)
   clear hK K
   refine xI (a' := ?_) ?_ ?_
   rotate_left
   · show Act.put _ (some 6) _ = _
     simp only [Act.put, List.setIfInBounds_toArray, List.set_cons_zero, List.set_cons_succ, dA, dB]
     rfl
   refine Dw (i := 3) (N := some 8) #[true, true, true, true, false, false, false, false, false, false, false, false, false] rfl rfl (oN kP.out (by kernel_rfl)) (by decide) (fun K hK => ?_)
   refine xN Try.func107 (by kernel_rfl) rfl #[.agg #[.int .i64 bH, .int .i64 bI, .slice eG bu.length eH]] (by rfl) rfl rfl (by (try simp only [List.map_toArray, List.map_cons, List.map_nil]); first | done | rfl | (simp only [List.length_drop, List.length_take]; rfl)) ?_
   with_reducible refine (oO.calls bH bI _ _ bu t162 t163 _ ?fU ?fQ A4.out).mono ?_
   (case fU => repeat (first | exact (Kd.fO tq.out HB.out) | (with_reducible refine Kd.gK ?_ _) | (with_reducible refine Kd.gJ ?_ _) | (with_reducible refine Kd.jh ?_)))
   (case fQ => exact wz.out)
   rintro e BH ⟨rfl, hb⟩
   refine ⟨_, rfl, ?_⟩
   have bF := aj.mk (bz (g := jI) (o := .cells #[.int .i64 aT, .int .i64 aZ, .slice bK aY.length bJ] 31 (0, 0)) (by (with_reducible repeat (first | refine aB ?_ _ | refine aF ?_ | refine aC ?_ _)); exact dZ.out) hb)
   have dS := aj.mk (bz (g := nJ) (o := .cells #[.int .i64 bH, .int .i64 bI, .slice eG bu.length eH] 31 (0, 0)) (by (with_reducible repeat (first | refine aB ?_ _ | refine aF ?_ | refine aC ?_ _)); exact fK.out) hb)
   have eu := aj.mk (aP (by repeat (first | (with_reducible first | exact HB.out | apply ak | apply ah | apply au | refine aA ?_ tC.out | refine aA ?_ ET.out) | exact HB.out)) hb)
   clear dZ
   clear fK
   clear HB
   have dZ := bF
   have fK := dS
   have HB := eu
   clear bF dS eu
   (try clear hb)
   (try clear hb2)
   (try clear hk)
   (try clear hi)
   refine hK.out _ _ ⟨(az dZ.out 0).trans rfl, (az dZ.out 1).trans rfl, (az dZ.out 2).trans rfl, (az fK.out 0).trans rfl, (az fK.out 1).trans rfl, (az fK.out 2).trans rfl⟩ (fun hHeld => ?_)
   clear hK K
   refine xI (a' := ?_) ?_ ?_
   rotate_left
   · show Act.put _ (some 8) _ = _
     simp only [Act.put, List.setIfInBounds_toArray, List.set_cons_zero, List.set_cons_succ, dA, dB]
     rfl
   refine gm (i := 4) (N := some 9) (v := ?_) (a' := ?_) #[true, true, true, true, true, false, false, false, false, false, false, false, false] rfl rfl (dW kP.out (by kernel_rfl)) (fun _ _ _ h => h) (Or.inl ⟨by rfl, ?_⟩) ?_ ?_
   rotate_left
   · intro w'
     go_simp
     with_reducible rfl
   rotate_left
   · simp only [Act.put, List.setIfInBounds_toArray, List.set_cons_zero, List.set_cons_succ, dA, dB]
     rfl
   refine gm (i := 5) (N := some 10) (v := ?_) (a' := ?_) #[true, true, true, true, true, true, false, false, false, false, false, false, false] rfl rfl (dW kP.out (by kernel_rfl)) (fun _ _ _ h => h) (Or.inl ⟨by rfl, ?_⟩) ?_ ?_
   rotate_left
   · intro w'
     go_simp
     with_reducible rfl
   rotate_left
   · simp only [Act.put, List.setIfInBounds_toArray, List.set_cons_zero, List.set_cons_succ, dA, dB]
     rfl
   refine gm (i := 6) (N := some 11) (v := ?_) (a' := ?_) #[true, true, true, true, true, true, true, false, false, false, false, false, false] rfl rfl (dW kP.out (by kernel_rfl)) (fun _ _ _ h => h) (Or.inl ⟨by rfl, ?_⟩) ?_ ?_
   rotate_left
   · intro w'
     go_simp
     with_reducible rfl
   rotate_left
   · simp only [Act.put, List.setIfInBounds_toArray, List.set_cons_zero, List.set_cons_succ, dA, dB]
     rfl
   refine gm (i := 8) (N := some 13) (v := ?_) (a' := ?_) #[true, true, true, true, true, true, true, false, true, false, false, false, false] rfl rfl (dW kP.out (by kernel_rfl)) (fun _ _ _ h => h) (Or.inl ⟨by rfl, ?_⟩) ?_ ?_
   rotate_left
   · intro w'
     go_simp
     with_reducible rfl
   rotate_left
   · simp only [Act.put, List.setIfInBounds_toArray, List.set_cons_zero, List.set_cons_succ, dA, dB]
     rfl
   refine qN (i := 7) (N := some 12) (v := ?_) (a' := ?_) #[true, true, true, true, true, true, true, true, true, false, false, false, false] rfl rfl (iL kP.out La.out (by kernel_rfl)) (fun _ _ _ h => h) (Or.inl ⟨by rfl, ?_⟩) hHeld ?_ ?_
   rotate_left
   · rintro w' ⟨s0, s1, s2, s3, s4, s5⟩
     go_simp
     with_reducible rfl
   rotate_left
   · simp only [Act.put, List.setIfInBounds_toArray, List.set_cons_zero, List.set_cons_succ, dA, dB]
     rfl
   refine qN (i := 9) (N := some 14) (v := ?_) (a' := ?_) #[true, true, true, true, true, true, true, true, true, true, false, false, false] rfl rfl (iL kP.out La.out (by kernel_rfl)) (fun _ _ _ h => h) (Or.inl ⟨by rfl, ?_⟩) hHeld ?_ ?_
   rotate_left
   · rintro w' ⟨s0, s1, s2, s3, s4, s5⟩
     go_simp
     with_reducible rfl
   rotate_left
   · simp only [Act.put, List.setIfInBounds_toArray, List.set_cons_zero, List.set_cons_succ, dA, dB]
     rfl
   refine Dw (i := 10) (N := some 15) #[true, true, true, true, true, true, true, true, true, true, true, false, false] rfl rfl (oN kP.out (by kernel_rfl)) (by decide) (fun K hK => ?_)
   refine xN Try.func108 (by kernel_rfl) rfl #[.slice bK aY.length bJ, .slice eG bu.length eH] (by rfl) rfl rfl (by (try simp only [List.map_toArray, List.map_cons, List.map_nil]); first | done | rfl | (simp only [List.length_drop, List.length_take]; rfl)) ?_
   with_reducible refine (eF.calls k _ _ aY _ _ bu t164 _ ?fU ?fQ ?qc ?uU A6.out).mono ?_
   (case fU => repeat (first | exact (Kd.fO mG.out HB.out) | (with_reducible refine Kd.gK ?_ _) | (with_reducible refine Kd.gJ ?_ _) | (with_reducible refine Kd.jh ?_)))
   (case fQ => exact oV.out)
   (case qc => repeat (first | exact (Kd.fO tq.out HB.out) | (with_reducible refine Kd.gK ?_ _) | (with_reducible refine Kd.gJ ?_ _) | (with_reducible refine Kd.jh ?_)))
   (case uU => exact wz.out)
   rintro e w' ⟨rfl, ⟨nd, rfl⟩⟩
   refine ⟨_, rfl, ?_⟩
   refine hK.out _ _ ⟨(az dZ.out 0).trans rfl, (az dZ.out 1).trans rfl, (az dZ.out 2).trans rfl, (az fK.out 0).trans rfl, (az fK.out 1).trans rfl, (az fK.out 2).trans rfl⟩ (fun hHeld => ?_)
   clear hK K
   refine xI (a' := ?_) ?_ ?_
   rotate_left
   · show Act.put _ (some 15) _ = _
     simp only [Act.put, List.setIfInBounds_toArray, List.set_cons_zero, List.set_cons_succ, dA, dB]
     rfl
   refine gm (i := 11) (N := some 16) (v := ?_) (a' := ?_) #[true, true, true, true, true, true, true, true, true, true, true, true, false] rfl rfl (dW kP.out (by kernel_rfl)) (fun _ _ _ h => h) (Or.inl ⟨by rfl, ?_⟩) ?_ ?_
   rotate_left
   · intro w'
     go_simp
     with_reducible rfl
   rotate_left
   · simp only [Act.put, List.setIfInBounds_toArray, List.set_cons_zero, List.set_cons_succ, dA, dB]
     rfl
   refine gm (i := 12) (N := some 4) (v := ?_) (a' := ?_) #[true, true, true, true, true, true, true, true, true, true, true, true, true] rfl rfl (dW kP.out (by kernel_rfl)) (fun _ _ _ h => h) (Or.inl ⟨by rfl, ?_⟩) ?_ ?_
   rotate_left
   · intro w'
     go_simp
     with_reducible rfl
   rotate_left
   · simp only [Act.put, List.setIfInBounds_toArray, List.set_cons_zero, List.set_cons_succ, dA, dB]
     rfl
   refine PV (CG kP.out (by kernel_rfl)) ?_
   try go_wp2
   go_ret
   exact ⟨by first | rfl | (simp [aN, aK] <;> rfl) | (simp [*, aN, aK] <;> rfl), by repeat (first | (with_reducible first | exact HB.out | apply ak | apply ah | apply au | refine aA ?_ tC.out | refine aA ?_ ET.out) | exact HB.out)⟩
 · rw [if_neg c5] at H
   have BM : (t160 == t162 && (t161 == t163)) = false := by simpa using c5
   (try (have ahI : decide (t160 = t162 && (t161 == t163)) = false := by simpa using c5))
   (try (have ahH : (t160 == t162 && (t161 == t163)) = false := by simpa using c5))
   (try (have amj : ¬ (t160 = t162 && (t161 == t163)) := by simpa using c5))
   clear c5
   obtain rfl := Option.some.inj H
   go_enter Try.func76, Try.ntmps76
   try go_wp2_with (first | ((with_reducible refine dH (N := 2) rfl ?_); refine cu ?hg (N := 2) ?hd (cs := #[.int .i64 aT, .int .i64 aZ, .slice bK aY.length bJ]) (t := 31) ?hr ?_; (case hd => rfl); (case hg => rfl); (case hr => first | (go_simp; done) | (go_simp; rfl)); intro jI hg w12 hbox hb; have bF := aj.mk (aP (by repeat (first | (with_reducible first | exact HB.out | apply ak | apply ah | apply au) | exact HB.out)) hb); have dS := aj.mk (hbox); have eu := aj.mk ((by rw [hg]; exact (bf (by repeat (first | (with_reducible first | exact HB.out | apply ak | apply ah | apply au) | exact HB.out))) : w.heap.size ≤ jI)); have fM := aj.mk ((by rw [hg]; exact (bf (by repeat (first | (with_reducible first | exact HB.out | apply ak | apply ah | apply au) | exact HB.out))) : w.heap.size ≤ jI)); clear HB; have HB := bF; have dZ := dS; have adJ := eu; have tC := fM; clear bF dS eu fM; clear hb hbox hg) | ((with_reducible refine dH (N := 3) rfl ?_); refine cu ?hg (N := 3) ?hd (cs := #[.int .i64 bH, .int .i64 bI, .slice eG bu.length eH]) (t := 31) ?hr ?_; (case hd => rfl); (case hg => rfl); (case hr => first | (go_simp; done) | (go_simp; rfl)); intro nJ hg SY hbox hb; have bF := aj.mk (bz (g := jI) (o := .cells #[.int .i64 aT, .int .i64 aZ, .slice bK aY.length bJ] 31 (0, 0)) (by (with_reducible repeat (first | refine aB ?_ _ | refine aF ?_ | refine aC ?_ _)); exact dZ.out) hb); have dS := aj.mk (aP (by repeat (first | (with_reducible first | exact HB.out | apply ak | apply ah | apply au | refine aA ?_ tC.out) | exact HB.out)) hb); have eu := aj.mk (hbox); have fM := aj.mk ((by rw [hg]; exact (bf (by repeat (first | (with_reducible first | exact HB.out | apply ak | apply ah | apply au | refine aA ?_ tC.out) | exact HB.out))) : w.heap.size ≤ nJ)); have jR := aj.mk ((by rw [hg]; exact (bf (by repeat (first | (with_reducible first | exact HB.out | apply ak | apply ah | apply au | refine aA ?_ tC.out) | exact HB.out))) : w.heap.size ≤ nJ)); have kD := aj.mk ((by rw [hg]; exact Nat.ne_of_lt (dY (g := jI) (o := .cells #[.int .i64 aT, .int .i64 aZ, .slice bK aY.length bJ] 31 (0, 0)) (by (with_reducible repeat (first | refine aB ?_ _ | refine aF ?_ | refine aC ?_ _)); exact dZ.out)) : jI ≠ nJ)); have kW := aj.mk ((by rw [hg]; exact Nat.ne_of_gt (dY (g := jI) (o := .cells #[.int .i64 aT, .int .i64 aZ, .slice bK aY.length bJ] 31 (0, 0)) (by (with_reducible repeat (first | refine aB ?_ _ | refine aF ?_ | refine aC ?_ _)); exact dZ.out)) : nJ ≠ jI)); clear dZ; clear HB; have dZ := bF; have HB := dS; have fK := eu; have adI := fM; have ET := jR; have Sz := kD; have Sv := kW; clear bF dS eu fM jR kD kW; clear hb hbox hg))
   have bF := aj.mk (aF dZ.out)
   have dS := aj.mk (aF fK.out)
   have eu := aj.mk (au HB.out)
   clear dZ
   clear fK
   clear HB
   have dZ := bF
   have fK := dS
   have HB := eu
   clear bF dS eu
   refine Hl (n := 13) (S := fun w' => w'.cell? ⟨jI, 0, none⟩ = some (.int .i64 aT) ∧ w'.cell? ⟨jI, 1, none⟩ = some (.int .i64 aZ) ∧ w'.cell? ⟨jI, 2, none⟩ = some (.slice bK aY.length bJ) ∧ w'.cell? ⟨nJ, 0, none⟩ = some (.int .i64 bH) ∧ w'.cell? ⟨nJ, 1, none⟩ = some (.int .i64 bI) ∧ w'.cell? ⟨nJ, 2, none⟩ = some (.slice eG bu.length eH)) (ds := []) #[false, false, false, false, false, false, false, false, false, false, false, false, false] (by kernel_rfl) rfl rfl ⟨(az dZ.out 0).trans rfl, (az dZ.out 1).trans rfl, (az dZ.out 2).trans rfl, (az fK.out 0).trans rfl, (az fK.out 1).trans rfl, (az fK.out 2).trans rfl⟩ (fun hHeld => ?_); refine wL iy.VT iy.P5 (fun kP La => ?_)
   generalize SY.drew = w14 at dZ fK HB hHeld ⊢
   refine qN (i := 0) (N := some 5) (v := ?_) (a' := ?_) #[true, false, false, false, false, false, false, false, false, false, false, false, false] rfl rfl (iL kP.out La.out (by kernel_rfl)) (fun _ _ _ h => h) (Or.inl ⟨by rfl, ?_⟩) hHeld ?_ ?_
   rotate_left
   · rintro w' ⟨s0, s1, s2, s3, s4, s5⟩
     go_simp
     with_reducible rfl
   rotate_left
   · simp only [Act.put, List.setIfInBounds_toArray, List.set_cons_zero, List.set_cons_succ, dA, dB]
     rfl
   refine qN (i := 2) (N := some 7) (v := ?_) (a' := ?_) #[true, false, true, false, false, false, false, false, false, false, false, false, false] rfl rfl (iL kP.out La.out (by kernel_rfl)) (fun _ _ _ h => h) (Or.inl ⟨by rfl, ?_⟩) hHeld ?_ ?_
   rotate_left
   · rintro w' ⟨s0, s1, s2, s3, s4, s5⟩
     go_simp
     with_reducible rfl
   rotate_left
   · simp only [Act.put, List.setIfInBounds_toArray, List.set_cons_zero, List.set_cons_succ, dA, dB]
     rfl
   refine Dw (i := 1) (N := some 6) #[true, true, true, false, false, false, false, false, false, false, false, false, false] rfl rfl (oN kP.out (by kernel_rfl)) (by decide) (fun K hK => ?_)
   refine xN Try.func107 (by kernel_rfl) rfl #[.agg #[.int .i64 aT, .int .i64 aZ, .slice bK aY.length bJ]] (by rfl) rfl rfl (by (try simp only [List.map_toArray, List.map_cons, List.map_nil]); first | done | rfl | (simp only [List.length_drop, List.length_take]; rfl)) ?_
   with_reducible refine (oO.calls aT aZ _ _ aY t160 t161 _ ?fU ?fQ A3.out).mono ?_
   (case fU => repeat (first | exact (Kd.fO mG.out HB.out) | (with_reducible refine Kd.gK ?_ _) | (with_reducible refine Kd.gJ ?_ _) | (with_reducible refine Kd.jh ?_)))
   (case fQ => exact oV.out)
   rintro e w15 ⟨rfl, hb⟩
   refine ⟨_, rfl, ?_⟩
   have bF := aj.mk (bz (g := jI) (o := .cells #[.int .i64 aT, .int .i64 aZ, .slice bK aY.length bJ] 31 (0, 0)) (by (with_reducible repeat (first | refine aB ?_ _ | refine aF ?_ | refine aC ?_ _)); exact dZ.out) hb)
   have dS := aj.mk (bz (g := nJ) (o := .cells #[.int .i64 bH, .int .i64 bI, .slice eG bu.length eH] 31 (0, 0)) (by (with_reducible repeat (first | refine aB ?_ _ | refine aF ?_ | refine aC ?_ _)); exact fK.out) hb)
   have eu := aj.mk (aP (by repeat (first | (with_reducible first | exact HB.out | apply ak | apply ah | apply au | refine aA ?_ tC.out | refine aA ?_ ET.out) | exact HB.out)) hb)
   clear dZ
   clear fK
   clear HB
   have dZ := bF
   have fK := dS
   have HB := eu
   clear bF dS eu
   (try clear hb)
   (try clear hb2)
   (try clear hk)
   (try clear hi)
   refine hK.out _ _ ⟨(az dZ.out 0).trans rfl, (az dZ.out 1).trans rfl, (az dZ.out 2).trans rfl, (az fK.out 0).trans rfl, (az fK.out 1).trans rfl, (az fK.out 2).trans rfl⟩ (fun hHeld => ?_)
   clear hK K
   refine xI (a' := ?_) ?_ ?_
   rotate_left
   · show Act.put _ (some 6) _ = _
     simp only [Act.put, List.setIfInBounds_toArray, List.set_cons_zero, List.set_cons_succ, dA, dB]
     rfl
   refine Dw (i := 3) (N := some 8) #[true, true, true, true, false, false, false, false, false, false, false, false, false] rfl rfl (oN kP.out (by kernel_rfl)) (by decide) (fun K hK => ?_)
   refine xN Try.func107 (by kernel_rfl) rfl #[.agg #[.int .i64 bH, .int .i64 bI, .slice eG bu.length eH]] (by rfl) rfl rfl (by (try simp only [List.map_toArray, List.map_cons, List.map_nil]); first | done | rfl | (simp only [List.length_drop, List.length_take]; rfl)) ?_
   with_reducible refine (oO.calls bH bI _ _ bu t162 t163 _ ?fU ?fQ A4.out).mono ?_
   (case fU => repeat (first | exact (Kd.fO tq.out HB.out) | (with_reducible refine Kd.gK ?_ _) | (with_reducible refine Kd.gJ ?_ _) | (with_reducible refine Kd.jh ?_)))
   (case fQ => exact wz.out)
   rintro e w16 ⟨rfl, hb⟩
   refine ⟨_, rfl, ?_⟩
   have bF := aj.mk (bz (g := jI) (o := .cells #[.int .i64 aT, .int .i64 aZ, .slice bK aY.length bJ] 31 (0, 0)) (by (with_reducible repeat (first | refine aB ?_ _ | refine aF ?_ | refine aC ?_ _)); exact dZ.out) hb)
   have dS := aj.mk (bz (g := nJ) (o := .cells #[.int .i64 bH, .int .i64 bI, .slice eG bu.length eH] 31 (0, 0)) (by (with_reducible repeat (first | refine aB ?_ _ | refine aF ?_ | refine aC ?_ _)); exact fK.out) hb)
   have eu := aj.mk (aP (by repeat (first | (with_reducible first | exact HB.out | apply ak | apply ah | apply au | refine aA ?_ tC.out | refine aA ?_ ET.out) | exact HB.out)) hb)
   clear dZ
   clear fK
   clear HB
   have dZ := bF
   have fK := dS
   have HB := eu
   clear bF dS eu
   (try clear hb)
   (try clear hb2)
   (try clear hk)
   (try clear hi)
   refine hK.out _ _ ⟨(az dZ.out 0).trans rfl, (az dZ.out 1).trans rfl, (az dZ.out 2).trans rfl, (az fK.out 0).trans rfl, (az fK.out 1).trans rfl, (az fK.out 2).trans rfl⟩ (fun hHeld => ?_)
   clear hK K
   refine xI (a' := ?_) ?_ ?_
   rotate_left
   · show Act.put _ (some 8) _ = _
     simp only [Act.put, List.setIfInBounds_toArray, List.set_cons_zero, List.set_cons_succ, dA, dB]
     rfl
   refine gm (i := 4) (N := some 9) (v := ?_) (a' := ?_) #[true, true, true, true, true, false, false, false, false, false, false, false, false] rfl rfl (dW kP.out (by kernel_rfl)) (fun _ _ _ h => h) (Or.inl ⟨by rfl, ?_⟩) ?_ ?_
   rotate_left
   · intro w'
     go_simp
     with_reducible rfl
   rotate_left
   · simp only [Act.put, List.setIfInBounds_toArray, List.set_cons_zero, List.set_cons_succ, dA, dB]
     rfl
   refine gm (i := 5) (N := some 10) (v := ?_) (a' := ?_) #[true, true, true, true, true, true, false, false, false, false, false, false, false] rfl rfl (dW kP.out (by kernel_rfl)) (fun _ _ _ h => h) (Or.inl ⟨by rfl, ?_⟩) ?_ ?_
   rotate_left
   · intro w'
     go_simp
     with_reducible rfl
   rotate_left
   · simp only [Act.put, List.setIfInBounds_toArray, List.set_cons_zero, List.set_cons_succ, dA, dB]
     rfl
   refine gm (i := 6) (N := some 11) (v := undef) (a' := ?_) #[true, true, true, true, true, true, true, false, false, false, false, false, false] rfl rfl (dW kP.out (by kernel_rfl)) (fun _ _ _ h => h) (Or.inr ⟨by rfl, rfl⟩) ?_ ?_
   rotate_left
   · simp only [Act.put, List.setIfInBounds_toArray, List.set_cons_zero, List.set_cons_succ, dA, dB]
     rfl
   refine gm (i := 7) (N := some 12) (v := undef) (a' := ?_) #[true, true, true, true, true, true, true, true, false, false, false, false, false] rfl rfl (dW kP.out (by kernel_rfl)) (fun _ _ _ h => h) (Or.inr ⟨by rfl, rfl⟩) ?_ ?_
   rotate_left
   · simp only [Act.put, List.setIfInBounds_toArray, List.set_cons_zero, List.set_cons_succ, dA, dB]
     rfl
   refine gm (i := 8) (N := some 13) (v := undef) (a' := ?_) #[true, true, true, true, true, true, true, true, true, false, false, false, false] rfl rfl (dW kP.out (by kernel_rfl)) (fun _ _ _ h => h) (Or.inr ⟨by rfl, rfl⟩) ?_ ?_
   rotate_left
   · simp only [Act.put, List.setIfInBounds_toArray, List.set_cons_zero, List.set_cons_succ, dA, dB]
     rfl
   refine gm (i := 9) (N := some 14) (v := undef) (a' := ?_) #[true, true, true, true, true, true, true, true, true, true, false, false, false] rfl rfl (dW kP.out (by kernel_rfl)) (fun _ _ _ h => h) (Or.inr ⟨by rfl, rfl⟩) ?_ ?_
   rotate_left
   · simp only [Act.put, List.setIfInBounds_toArray, List.set_cons_zero, List.set_cons_succ, dA, dB]
     rfl
   refine gm (i := 10) (N := some 15) (v := undef) (a' := ?_) #[true, true, true, true, true, true, true, true, true, true, true, false, false] rfl rfl (dW kP.out (by kernel_rfl)) (fun _ _ _ h => h) (Or.inr ⟨by rfl, rfl⟩) ?_ ?_
   rotate_left
   · simp only [Act.put, List.setIfInBounds_toArray, List.set_cons_zero, List.set_cons_succ, dA, dB]
     rfl
   refine gm (i := 11) (N := some 16) (v := ?_) (a' := ?_) #[true, true, true, true, true, true, true, true, true, true, true, true, false] rfl rfl (dW kP.out (by kernel_rfl)) (fun _ _ _ h => h) (Or.inl ⟨by rfl, ?_⟩) ?_ ?_
   rotate_left
   · intro w'
     go_simp
     with_reducible rfl
   rotate_left
   · simp only [Act.put, List.setIfInBounds_toArray, List.set_cons_zero, List.set_cons_succ, dA, dB]
     rfl
   refine gm (i := 12) (N := some 4) (v := ?_) (a' := ?_) #[true, true, true, true, true, true, true, true, true, true, true, true, true] rfl rfl (dW kP.out (by kernel_rfl)) (fun _ _ _ h => h) (Or.inl ⟨by rfl, ?_⟩) ?_ ?_
   rotate_left
   · intro w'
     go_simp
     with_reducible rfl
   rotate_left
   · simp only [Act.put, List.setIfInBounds_toArray, List.set_cons_zero, List.set_cons_succ, dA, dB]
     rfl
   refine PV (CG kP.out (by kernel_rfl)) ?_
   try go_wp2
   go_ret
   exact ⟨by first | rfl | (simp [aN, aK] <;> rfl) | (simp [*, aN, aK] <;> rfl), by repeat (first | (with_reducible first | exact HB.out | apply ak | apply ah | apply au | refine aA ?_ tC.out | refine aA ?_ ET.out) | exact HB.out)⟩
def bits_Mul.f (a0 : Int) (a1 : Int) : Option (Int × Int) := (bits_Mul64.f a0 a1).bind fun KO => (some (KO.1, KO.2))
theorem bits_Mul.calls (a0 : Int) (a1 : Int) (r1 : Int) (r2 : Int) (w : World) (h : bits_Mul.f a0 a1 = some (r1, r2)) :
 Calls Try.prog 131 #[.int .u64 a0, .int .u64 a1] w fun e w' => e = .returned (.tuple #[.int .u64 r1, .int .u64 r2]) ∧ bV w w' := by
 have H : ((bits_Mul64.f a0 a1).bind fun KO => (some (KO.1, KO.2))) = some (r1, r2) := h
 clear h
 replace H := Option.bind_eq_some_iff.mp H
 obtain ⟨⟨t165, t166⟩, BD, H⟩ := H
 replace H : (some (t165, t166)) = some (r1, r2) := H
 have A3 := aj.mk BD
 clear BD
 simp only [Option.some.injEq, Prod.mk.injEq] at H
 obtain ⟨rfl, rfl⟩ := H
 go_enter Try.func131, Try.ntmps131
 go_wp2_with (first | ((with_reducible refine aH (f := 96) rfl ?_); refine bg (some 25) rfl rfl Try.func96 (by kernel_rfl) rfl #[.int .u64 a0, .int .u64 a1] rfl (by (try simp only [List.map_toArray, List.map_cons, List.map_nil]); first | done | rfl | (simp only [List.length_drop, List.length_take]; rfl)) ?_; (with_reducible refine (bits_Mul64.calls a0 a1 t165 t166 _ A3.out).mono ?_); rintro e w' ⟨rfl, ⟨nd, rfl⟩⟩; refine ⟨_, rfl, ?_⟩))
 go_ret2
 exact ⟨by first | rfl | (simp; done) | (simp [*]; done), by repeat (first | exact bV.refl _ | apply bV.step)⟩
def nN.f  : Option (Int × Int × Int × Int × Int × Int) := some (2097152, 16777216, 262144, 16777216, 16777216, 268435456)
theorem nN.calls  (r1 : Int) (r2 : Int) (r3 : Int) (r4 : Int) (r5 : Int) (r6 : Int) (w : World) (h : nN.f  = some (r1, r2, r3, r4, r5, r6)) :
 Calls Try.prog 34 #[] w fun e w' => e = .returned (.agg #[.int .i64 r1, .int .i64 r2, .int .i64 r3, .int .i64 r4, .int .i64 r5, .int .i64 r6]) ∧ Below w.heap.size w w' := by
 have Zm := Try.underlying24
 have HB := aj.mk (Below.refl w.heap.size w)
 have H : (some (2097152, 16777216, 262144, 16777216, 16777216, 268435456)) = some (r1, r2, r3, r4, r5, r6) := h
 clear h
 simp only [Option.some.injEq, Prod.mk.injEq] at H
 obtain ⟨rfl, rfl, rfl, rfl, rfl, rfl⟩ := H
 go_enter Try.func34, Try.ntmps34
 go_wp2_with (first | ((with_reducible refine dH (N := 0) rfl ?_); refine cu ?hg (N := 0) ?hd (cs := #[.int .i64 0, .int .i64 0, .int .i64 0, .int .i64 0, .int .i64 0, .int .i64 0]) (t := 24) ?hr ?_; (case hd => rfl); (case hg => rfl); (case hr => first | (go_simp; done) | (go_simp; rfl)); intro yX hg w1 hbox hb; have bF := aj.mk (aP (by repeat (first | (with_reducible first | exact HB.out | apply ak | apply ah | apply au) | exact HB.out)) hb); have dS := aj.mk (hbox); have eu := aj.mk ((by rw [hg]; exact (bf (by repeat (first | (with_reducible first | exact HB.out | apply ak | apply ah | apply au) | exact HB.out))) : w.heap.size ≤ yX)); have fM := aj.mk ((by rw [hg]; exact (bf (by repeat (first | (with_reducible first | exact HB.out | apply ak | apply ah | apply au) | exact HB.out))) : w.heap.size ≤ yX)); clear HB; have HB := bF; have tH := dS; have akG := eu; have adK := fM; clear bF dS eu fM; clear hb hbox hg; have ahq : w1.cell? ⟨yX, 0, none⟩ = some (.int .i64 0) := (az tH.out 0).trans rfl; have ahp : w1.cell? ⟨yX, 1, none⟩ = some (.int .i64 0) := (az tH.out 1).trans rfl; have aho : w1.cell? ⟨yX, 2, none⟩ = some (.int .i64 0) := (az tH.out 2).trans rfl; have ahn : w1.cell? ⟨yX, 3, none⟩ = some (.int .i64 0) := (az tH.out 3).trans rfl; have ahm : w1.cell? ⟨yX, 4, none⟩ = some (.int .i64 0) := (az tH.out 4).trans rfl; have ahl : w1.cell? ⟨yX, 5, none⟩ = some (.int .i64 0) := (az tH.out 5).trans rfl; have ahf := ay tH.out 0; have ahe := ay tH.out 1; have ahd := ay tH.out 2; have ahc := ay tH.out 3; have ahb := ay tH.out 4; have aha := ay tH.out 5))
 refine bodyPost_ret (results_cell_row rfl _ _ yX 24 #[.int .i64 2097152, .int .i64 16777216, .int .i64 262144, .int .i64 16777216, .int .i64 16777216, .int .i64 268435456] (0, 0) _ rfl (by (with_reducible repeat (first | refine aB ?_ _ | refine aF ?_ | refine aC ?_ _)); refine fZ (cs := #[.int .i64 2097152, .int .i64 16777216, .int .i64 262144, .int .i64 16777216, .int .i64 16777216, .int .i64 0]) ?_ 5 _ rfl; (with_reducible repeat (first | refine aB ?_ _ | refine aF ?_ | refine aC ?_ _)); refine fZ (cs := #[.int .i64 2097152, .int .i64 16777216, .int .i64 262144, .int .i64 16777216, .int .i64 0, .int .i64 0]) ?_ 4 _ rfl; (with_reducible repeat (first | refine aB ?_ _ | refine aF ?_ | refine aC ?_ _)); refine fZ (cs := #[.int .i64 2097152, .int .i64 16777216, .int .i64 262144, .int .i64 0, .int .i64 0, .int .i64 0]) ?_ 3 _ rfl; (with_reducible repeat (first | refine aB ?_ _ | refine aF ?_ | refine aC ?_ _)); refine fZ (cs := #[.int .i64 2097152, .int .i64 16777216, .int .i64 0, .int .i64 0, .int .i64 0, .int .i64 0]) ?_ 2 _ rfl; (with_reducible repeat (first | refine aB ?_ _ | refine aF ?_ | refine aC ?_ _)); refine fZ (cs := #[.int .i64 2097152, .int .i64 0, .int .i64 0, .int .i64 0, .int .i64 0, .int .i64 0]) ?_ 1 _ rfl; (with_reducible repeat (first | refine aB ?_ _ | refine aF ?_ | refine aC ?_ _)); refine fZ (cs := #[.int .i64 0, .int .i64 0, .int .i64 0, .int .i64 0, .int .i64 0, .int .i64 0]) ?_ 0 _ rfl; (with_reducible repeat (first | refine aB ?_ _ | refine aF ?_ | refine aC ?_ _)); exact tH.out) Try.underlying24 rfl (by kernel_rfl)) rfl ?_
 exact ⟨by first | rfl | (simp [aN, aK] <;> rfl) | (simp [*, aN, aK] <;> rfl), by repeat (first | (with_reducible first | exact HB.out | apply ak | apply ah | apply au | refine aA ?_ adK.out) | exact HB.out)⟩
def bP.l0 : Nat → List Int → Int → Option (Bool)
 | 0, _, _ => none
 | k + 1, x3, x4 => if x4 < (x3.length : Int) then (if 0 ≤ x4 then (if (rd x3 x4) < 1 then (some false) else (if (rd x3 x4) > 17179869184 then (some false) else (bP.l0 k x3 (wrap64 (x4 + 1))))) else (none)) else (some true)
def bP.f (k : Nat) (aT : Int) (aZ : Int) (zk : Int) (b_ : Int) (dw : Int) (zi : Int) : Option (Bool) := bP.l0 k (([aT, aZ, zk, b_, dw, zi] : List Int)) 0
theorem bP.calls (k : Nat) (aT : Int) (aZ : Int) (zk : Int) (b_ : Int) (dw : Int) (zi : Int) (r : Bool) (w : World) (h : bP.f k aT aZ zk b_ dw zi = some r) :
 Calls Try.prog 14 #[.agg #[.int .i64 aT, .int .i64 aZ, .int .i64 zk, .int .i64 b_, .int .i64 dw, .int .i64 zi]] w fun e w' => e = .returned (.bool r) ∧ Below w.heap.size w w' := by
 have Zm := Try.underlying24
 have HB := aj.mk (Below.refl w.heap.size w)
 have H : (bP.l0 k (([aT, aZ, zk, b_, dw, zi] : List Int)) 0) = some r := h
 clear h
 obtain ⟨uQ, JX⟩ : ∃ y_ : List Int, y_ = (([aT, aZ, zk, b_, dw, zi] : List Int)) := ⟨_, rfl⟩
 replace H : (bP.l0 k uQ 0) = some r := by first | (rw [JX]; with_reducible exact H) | (have H2_ := (Option.bind_some _ _).symm.trans H; rw [JX]; with_reducible exact H2_) | (have H2_ := (Option.bind_some _ _).symm.trans H; with_reducible exact H2_) | with_reducible exact H | (rw [JX]; exact H) | exact H
 have YL := aj.mk JX
 clear JX
 have H' := aj.mk H
 clear H
 go_enter Try.func14, Try.ntmps14
 go_wp2_with (first | ((with_reducible refine dH (N := 1) rfl ?_); refine cu ?hg (N := 1) ?hd (cs := #[.int .i64 aT, .int .i64 aZ, .int .i64 zk, .int .i64 b_, .int .i64 dw, .int .i64 zi]) (t := 24) ?hr ?_; (case hd => rfl); (case hg => rfl); (case hr => first | (go_simp; done) | (go_simp; rfl)); intro xO hg w2 hbox hb; have bF := aj.mk (aP (by repeat (first | (with_reducible first | exact HB.out | apply ak | apply ah | apply au) | exact HB.out)) hb); have dS := aj.mk (hbox); have eu := aj.mk ((by rw [hg]; exact (bf (by repeat (first | (with_reducible first | exact HB.out | apply ak | apply ah | apply au) | exact HB.out))) : w.heap.size ≤ xO)); have fM := aj.mk ((by rw [hg]; exact (bf (by repeat (first | (with_reducible first | exact HB.out | apply ak | apply ah | apply au) | exact HB.out))) : w.heap.size ≤ xO)); clear HB; have HB := bF; have nV := dS; have akF := eu; have ES := fM; clear bF dS eu fM; clear hb hbox hg; have ZJ : w2.cell? ⟨xO, 0, none⟩ = some (.int .i64 aT) := (az nV.out 0).trans rfl; have ZI : w2.cell? ⟨xO, 1, none⟩ = some (.int .i64 aZ) := (az nV.out 1).trans rfl; have ZH : w2.cell? ⟨xO, 2, none⟩ = some (.int .i64 zk) := (az nV.out 2).trans rfl; have ZG : w2.cell? ⟨xO, 3, none⟩ = some (.int .i64 b_) := (az nV.out 3).trans rfl; have ZF : w2.cell? ⟨xO, 4, none⟩ = some (.int .i64 dw) := (az nV.out 4).trans rfl; have ZE : w2.cell? ⟨xO, 5, none⟩ = some (.int .i64 zi) := (az nV.out 5).trans rfl; have Zx := ay nV.out 0; have Zw := ay nV.out 1; have Zv := ay nV.out 2; have Zu := ay nV.out 3; have Zt := ay nV.out 4; have Zr := ay nV.out 5) | ((with_reducible refine dH (N := 17) rfl ?_); refine Kd.acO (Kd.int .i64) _ 22 ?hg (N := 17) ?hd (xs := ([aT, aZ, zk, b_, dw, zi] : List Int)) (inner := [.int .i64 aT, .int .i64 aZ, .int .i64 zk, .int .i64 b_, .int .i64 dw, .int .i64 zi]) (ok := fun _ => True) (okp := fun _ => True) ?hr ?hp (fun _ hk => hk) trivial (Below.refl _ _) (Nat.le_refl _) (by simp) ?_; (case hd => rfl); (case hg => rfl); (case hr => first | (go_simp; done) | (go_simp; rfl)); (case hp => exact (fF.one (show Kd.M (Kd.int .i64) _ _ _ aT [.int .i64 aT] from rfl) (fF.one (show Kd.M (Kd.int .i64) _ _ _ aZ [.int .i64 aZ] from rfl) (fF.one (show Kd.M (Kd.int .i64) _ _ _ zk [.int .i64 zk] from rfl) (fF.one (show Kd.M (Kd.int .i64) _ _ _ b_ [.int .i64 b_] from rfl) (fF.one (show Kd.M (Kd.int .i64) _ _ _ dw [.int .i64 dw] from rfl) (fF.one (show Kd.M (Kd.int .i64) _ _ _ zi [.int .i64 zi] from rfl) (fF.none _ _)))))))); intro agd w4 ho5 hb hg_ abL; clear hg_ abL; (first | rw [← YL.out] at ho5 | (simp only [Int.reduceToNat] at ho5; rw [← YL.out] at ho5)); have bF := aj.mk (Kd.pR ho5 (bf (by repeat (first | (with_reducible first | exact HB.out | apply ak | apply ah | apply au | refine aA ?_ ES.out) | exact HB.out)))); have dS := aj.mk (bz (g := xO) (o := .cells #[.int .i64 aT, .int .i64 aZ, .int .i64 zk, .int .i64 b_, .int .i64 dw, .int .i64 zi] 24 (0, 0)) (by (with_reducible repeat (first | refine aB ?_ _ | refine aF ?_ | refine aC ?_ _)); exact nV.out) hb); have eu := aj.mk (aP (by repeat (first | (with_reducible first | exact HB.out | apply ak | apply ah | apply au | refine aA ?_ ES.out) | exact HB.out)) hb); clear nV; clear HB; have adx := bF; have nV := dS; have HB := eu; clear bF dS eu; clear hb ho5))
 go_loopg [4] k (fun kq v4 w' => ∃ (mO : Int), v4 = .int .i64 mO ∧ aj (bP.l0 kq uQ mO = some r) ∧ aj (kq ≤ k) ∧ aj (Kd.R (Kd.int .i64) 22 w' w.heap.size (fun _ => True) agd uQ) ∧ aj (w'.heap[xO]? = some (.cells #[.int .i64 aT, .int .i64 aZ, .int .i64 zk, .int .i64 b_, .int .i64 dw, .int .i64 zi] 24 (0, 0))) ∧ aj (Below w.heap.size w w'))
 case atStart => exact ⟨(0), (by first | rfl | (simp; done) | (simp [*]; done)), H', ⟨Nat.le_refl _⟩, ⟨by (with_reducible repeat (first | apply Kd.gI | apply Kd.gG | apply Kd.iG)); exact adx.out⟩, ⟨by (with_reducible repeat (first | refine aB ?_ _ | refine aF ?_ | refine aC ?_ _)); exact nV.out⟩, ⟨by repeat (first | (with_reducible first | exact HB.out | apply ak | apply ah | apply au | refine aA ?_ ES.out) | exact HB.out)⟩⟩
 case round =>
  clear H'
  try clear c1
  try clear p2
  try clear ZJ
  try clear ZI
  try clear ZH
  try clear ZG
  try clear ZF
  try clear ZE
  try clear Zx
  try clear Zw
  try clear Zv
  try clear Zu
  try clear Zt
  try clear Zr
  obtain ⟨mO, rfl, HA, zy, FD, nV, HB⟩ := hrel
  cases gk with
  | zero => exact absurd HA.out (by simp [bP.l0])
  | succ k1 =>
    have H := HA.out
    clear HA
    simp only [bP.l0] at H
    by_cases c6 : mO < (uQ.length : Int)
    · rw [if_pos c6] at H
      have qC : decide (mO < (uQ.length : Int)) = true := decide_eq_true c6
      clear c6
      by_cases c7 : 0 ≤ mO
      · rw [if_pos c7] at H
        have vS : decide (0 ≤ mO) = true := decide_eq_true c7
        clear c7
        by_cases c8 : (rd uQ mO) < 1
        · rw [if_pos c8] at H
          have zW : decide ((rd uQ mO) < 1) = true := decide_eq_true c8
          clear c8
          obtain rfl := Option.some.inj H
          obtain ⟨Ao9, co9, eo9⟩ := Kd.jY FD.out
          subst eo9
          have Dt : 0 ≤ (mO : Int) := of_decide_eq_true (by first | (with_reducible assumption) | assumption)
          have Dq : mO < (uQ.length : Int) := of_decide_eq_true (by first | (with_reducible assumption) | assumption)
          obtain ⟨Qb, e187, PD⟩ := Kd.iF (Kd.jK FD.out).2.2 mO Dt Dq
          cases e187
          replace Dt := eq_true Dt
          replace Dq := eq_true Dq
          go_wp2
          go_ret
          exact ⟨by first | rfl | (simp [aN, aK] <;> rfl) | (simp [*, aN, aK] <;> rfl), by repeat (first | (with_reducible first | exact HB.out | apply ak | apply ah | apply au | refine aA ?_ ES.out) | exact HB.out)⟩
        · rw [if_neg c8] at H
          have zW : decide ((rd uQ mO) < 1) = false := decide_eq_false c8
          clear c8
          by_cases c10 : (rd uQ mO) > 17179869184
          · rw [if_pos c10] at H
            have vV : decide (17179869184 < (rd uQ mO)) = true := decide_eq_true c10
            clear c10
            obtain rfl := Option.some.inj H
            obtain ⟨amO, amf, ahy⟩ := Kd.jY FD.out
            subst ahy
            have Dt : 0 ≤ (mO : Int) := of_decide_eq_true (by first | (with_reducible assumption) | assumption)
            have Dq : mO < (uQ.length : Int) := of_decide_eq_true (by first | (with_reducible assumption) | assumption)
            obtain ⟨Qb, e187, PD⟩ := Kd.iF (Kd.jK FD.out).2.2 mO Dt Dq
            cases e187
            replace Dt := eq_true Dt
            replace Dq := eq_true Dq
            have Nc : 0 ≤ (mO : Int) := of_decide_eq_true (by first | (with_reducible assumption) | assumption)
            have MN : mO < (uQ.length : Int) := of_decide_eq_true (by first | (with_reducible assumption) | assumption)
            obtain ⟨Vu, ZV, Wq⟩ := Kd.iF (Kd.jK FD.out).2.2 mO Nc MN
            obtain rfl : Qb = Vu := (by injection ZV)
            replace Nc := eq_true Nc
            replace MN := eq_true MN
            go_wp2
            go_ret
            exact ⟨by first | rfl | (simp [aN, aK] <;> rfl) | (simp [*, aN, aK] <;> rfl), by repeat (first | (with_reducible first | exact HB.out | apply ak | apply ah | apply au | refine aA ?_ ES.out) | exact HB.out)⟩
          · rw [if_neg c10] at H
            have vV : decide (17179869184 < (rd uQ mO)) = false := decide_eq_false c10
            clear c10
            have H' := aj.mk H
            clear H
            obtain ⟨aaR, Z7, ZP⟩ := Kd.jY FD.out
            subst ZP
            have Dt : 0 ≤ (mO : Int) := of_decide_eq_true (by first | (with_reducible assumption) | assumption)
            have Dq : mO < (uQ.length : Int) := of_decide_eq_true (by first | (with_reducible assumption) | assumption)
            obtain ⟨Qb, e187, PD⟩ := Kd.iF (Kd.jK FD.out).2.2 mO Dt Dq
            cases e187
            replace Dt := eq_true Dt
            replace Dq := eq_true Dq
            have Nc : 0 ≤ (mO : Int) := of_decide_eq_true (by first | (with_reducible assumption) | assumption)
            have MN : mO < (uQ.length : Int) := of_decide_eq_true (by first | (with_reducible assumption) | assumption)
            obtain ⟨Vu, ZV, Wq⟩ := Kd.iF (Kd.jK FD.out).2.2 mO Nc MN
            obtain rfl : Qb = Vu := (by injection ZV)
            replace Nc := eq_true Nc
            replace MN := eq_true MN
            go_wp2
            go_roundg k1
            case measure => have := zy.out; omega
            case rel => exact ⟨(wrap64 (mO + 1)), (by first | rfl | (simp; done) | (simp [*]; done)), H', ⟨by have := zy.out; omega⟩, ⟨by (with_reducible repeat (first | apply Kd.gI | apply Kd.gG | apply Kd.iG)); exact FD.out⟩, ⟨by (with_reducible repeat (first | refine aB ?_ _ | refine aF ?_ | refine aC ?_ _)); exact nV.out⟩, ⟨by repeat (first | (with_reducible first | exact HB.out | apply ak | apply ah | apply au | refine aA ?_ ES.out) | exact HB.out)⟩⟩
      · rw [if_neg c7] at H
        exact absurd H (by simp)
    · rw [if_neg c6] at H
      have qC : decide (mO < (uQ.length : Int)) = false := decide_eq_false c6
      clear c6
      obtain rfl := Option.some.inj H
      obtain ⟨amN, ame, ahx⟩ := Kd.jY FD.out
      subst ahx
      go_wp2
      go_ret
      exact ⟨by first | rfl | (simp [aN, aK] <;> rfl) | (simp [*, aN, aK] <;> rfl), by repeat (first | (with_reducible first | exact HB.out | apply ak | apply ah | apply au | refine aA ?_ ES.out) | exact HB.out)⟩
def fH.f (a0 : Int) : Option (Bool) := if a0 ≥ (-70368744177664) then (some (decide (a0 ≤ 70368744177663))) else (some false)
theorem fH.calls (a0 : Int) (r : Bool) (w : World) (h : fH.f a0 = some r) :
 Calls Try.prog 73 #[.int .i64 a0] w fun e w' => e = .returned (.bool r) ∧ bV w w' := by
 have H : (if a0 ≥ (-70368744177664) then (some (decide (a0 ≤ 70368744177663))) else (some false)) = some r := h
 clear h
 by_cases c2 : a0 ≥ (-70368744177664)
 · rw [if_pos c2] at H
   have Z_ : decide ((-70368744177664) ≤ a0) = true := decide_eq_true c2
   clear c2
   obtain rfl := Option.some.inj H
   go_enter Try.func73, Try.ntmps73
   go_wp2
   go_ret
   exact ⟨by first | rfl | (simp; done) | (simp [*]; done), by repeat (first | exact bV.refl _ | apply bV.step)⟩
 · rw [if_neg c2] at H
   have Z_ : decide ((-70368744177664) ≤ a0) = false := decide_eq_false c2
   clear c2
   obtain rfl := Option.some.inj H
   go_enter Try.func73, Try.ntmps73
   go_wp2
   go_ret
   exact ⟨by first | rfl | (simp; done) | (simp [*]; done), by repeat (first | exact bV.refl _ | apply bV.step)⟩
end Go.Proofs.Ytnijhjbcjeohhaa.PQ

namespace Go.Proofs.Ytnijhjbcjeohhaa.PQ
open Go.RowKit Go.Proofs.af.aO Go.Proofs.af.aV Go.Proofs.af.aX
attribute [local go_sem] iU iR jU jT gY gX iT iQ
set_option linter.unusedVariables false
set_option linter.unusedSimpArgs false
mutual
def aG.j0 : Nat → Bool → Int → Int → List Int → Option (Bool)
 | 0, _, _, _, _ => none
 | k + 1, x33, G7, G6, yw => if x33 = true then (some false) else (aG.l0 k 0 G7 G6 yw)
def aG.l0 : Nat → Int → Int → Int → List Int → Option (Bool)
 | 0, _, _, _, _ => none
 | k + 1, x3, G7, G6, yw => if x3 < (yw.length : Int) then (if 0 ≤ x3 then ((fH.f (rd yw x3)).bind fun t191 => (if t191 = true then (aG.l0 k (wrap64 (x3 + 1)) G7 G6 yw) else (some false))) else (none)) else (some true)
end
def aG.f (k : Nat) (aT : Int) (aZ : Int) (aY : List Int) : Option (Bool) := if aT < 1 then (aG.j0 k true aT aZ aY) else (if aT > 8 then (aG.j0 k true aT aZ aY) else (if aZ < 1 then (aG.j0 k true aT aZ aY) else (if aZ > 8 then (aG.j0 k true aT aZ aY) else (aG.j0 k ((aY.length : Int) != (wrap64 (aT * aZ))) aT aZ aY))))
theorem aG.Ud : ∀ k, (∀ y0 y1 y2 y3, p_ (aG.j0 k y0 y1 y2 y3) (aG.j0 (k + 1) y0 y1 y2 y3)) ∧ (∀ y0 y1 y2 y3, p_ (aG.l0 k y0 y1 y2 y3) (aG.l0 (k + 1) y0 y1 y2 y3))
 | 0 => ⟨fun _ _ _ _ r h => by simp [aG.j0] at h, fun _ _ _ _ r h => by simp [aG.l0] at h⟩
 | k + 1 => by
   obtain ⟨Zj, ih1⟩ := aG.Ud k
   refine ⟨?_, ?_⟩
   · intro y0 y1 y2 y3
     unfold aG.j0
     repeat' first
     | (with_reducible exact Zj _ _ _ _)
     | (with_reducible exact ih1 _ _ _ _)
     | (with_reducible exact p_.refl _)
     | (with_reducible exact p_.none _)
     | (with_reducible refine p_.ite ?_ ?_)
     | (with_reducible refine p_.bind ?_ (fun _ => ?_))
     | exact Zj _ _ _ _
     | exact ih1 _ _ _ _
     | exact p_.none _
     | refine p_.ite ?_ ?_
     | refine p_.bind ?_ (fun _ => ?_)
   · intro y0 y1 y2 y3
     unfold aG.l0
     repeat' first
     | (with_reducible exact Zj _ _ _ _)
     | (with_reducible exact ih1 _ _ _ _)
     | (with_reducible exact p_.refl _)
     | (with_reducible exact p_.none _)
     | (with_reducible refine p_.ite ?_ ?_)
     | (with_reducible refine p_.bind ?_ (fun _ => ?_))
     | exact Zj _ _ _ _
     | exact ih1 _ _ _ _
     | exact p_.none _
     | refine p_.ite ?_ ?_
     | refine p_.bind ?_ (fun _ => ?_)
theorem aG.mono : ∀ a0 a1 a2 k, p_ (aG.f k a0 a1 a2) (aG.f (k + 1) a0 a1 a2) := by
 intro a0 a1 a2 k
 obtain ⟨Zj, ih1⟩ := aG.Ud k
 unfold aG.f
 repeat' first
  | (with_reducible exact Zj _ _ _ _)
  | (with_reducible exact ih1 _ _ _ _)
  | (with_reducible exact p_.refl _)
  | (with_reducible exact p_.none _)
  | (with_reducible refine p_.ite ?_ ?_)
  | (with_reducible refine p_.bind ?_ (fun _ => ?_))
  | exact Zj _ _ _ _
  | exact ih1 _ _ _ _
  | exact p_.none _
  | refine p_.ite ?_ ?_
  | refine p_.bind ?_ (fun _ => ?_)
theorem aG.calls (k : Nat) (aT : Int) (aZ : Int) (bK : Option Addr) (bJ : Nat) (aY : List Int) (r : Bool) (w : World) (iV : Kd.C (Kd.int .i64) w bK aY.length aY) (jy : aY.length ≤ bJ) (h : aG.f k aT aZ aY = some r) :
 Calls Try.prog 72 #[.agg #[.int .i64 aT, .int .i64 aZ, .slice bK aY.length bJ]] w fun e w' => e = .returned (.bool r) ∧ Below w.heap.size w w' := by
 have Ig := Try.underlying31
 have mG := aj.mk iV
 have oV := aj.mk jy
 clear iV jy
 have HB := aj.mk (Below.refl w.heap.size w)
 have H : (if aT < 1 then (aG.j0 k true aT aZ aY) else (if aT > 8 then (aG.j0 k true aT aZ aY) else (if aZ < 1 then (aG.j0 k true aT aZ aY) else (if aZ > 8 then (aG.j0 k true aT aZ aY) else (aG.j0 k ((aY.length : Int) != (wrap64 (aT * aZ))) aT aZ aY))))) = some r := h
 clear h
 have HC2 := aj.mk H
 clear H
 go_enter Try.func72, Try.ntmps72
 go_upto_region 1 with (first | ((with_reducible refine dH (N := 1) rfl ?_); (try (refine l_ (by rfl) ?_; dsimp only)); refine cu ?hg (N := 1) ?hd (cs := #[.int .i64 aT, .int .i64 aZ, .slice bK aY.length bJ]) (t := 31) ?hr ?_; (case hd => rfl); (case hg => rfl); (case hr => first | (go_simp; done) | (go_simp; rfl)); intro ji hg w3 hbox hb; have bF := aj.mk (aP (by repeat (first | (with_reducible first | exact HB.out | apply ak | apply ah | apply au) | exact HB.out)) hb); have dS := aj.mk (hbox); have eu := aj.mk ((by rw [hg]; exact (bf (by repeat (first | (with_reducible first | exact HB.out | apply ak | apply ah | apply au) | exact HB.out))) : w.heap.size ≤ ji)); have fM := aj.mk ((by rw [hg]; exact (bf (by repeat (first | (with_reducible first | exact HB.out | apply ak | apply ah | apply au) | exact HB.out))) : w.heap.size ≤ ji)); clear HB; have HB := bF; have dU := dS; have akE := eu; have xW := fM; clear bF dS eu fM; clear hb hbox hg))
 (try simp only [Act.put, List.setIfInBounds_toArray, List.set_cons_zero, List.set_cons_succ])
 go_cut [33] (fun v33 wc => ∃ (kq : Nat) (OT : Bool), v33 = .bool OT ∧ aj (aG.j0 kq OT aT aZ aY = some r) ∧ aj (kq ≤ k) ∧ aj (wc.heap[ji]? = some (.cells #[.int .i64 aT, .int .i64 aZ, (.slice bK aY.length bJ)] 31 (0, 0))) ∧ aj (Below w.heap.size w wc))
 case first =>
  have H := HC2.out
  clear HC2
  by_cases c4 : aT < 1
  · rw [if_pos c4] at H
    have vT : decide (aT < 1) = true := decide_eq_true c4
    clear c4
    (first | rw [vT] | (simp only [dA, dB]; rw [vT]) | skip)
    have H' := aj.mk H
    clear H
    have NV : w3.cell? ⟨ji, 0, none⟩ = some (.int .i64 aT) := (az dU.out 0).trans rfl
    have NS : w3.cell? ⟨ji, 1, none⟩ = some (.int .i64 aZ) := (az dU.out 1).trans rfl
    have NM : w3.cell? ⟨ji, 2, none⟩ = some (.slice bK aY.length bJ) := (az dU.out 2).trans rfl
    have NI := ay dU.out 0
    have NH := ay dU.out 1
    have NF := ay dU.out 2
    go_wp2
    go_meet
    case rel => exact ⟨_, (true), (by first | rfl | (simp; done) | (simp [*]; done)), H', ⟨by first | omega | exact Nat.le_refl _⟩, ⟨by (with_reducible repeat (first | refine aB ?_ _ | refine aF ?_ | refine aC ?_ _)); exact dU.out⟩, ⟨by repeat (first | (with_reducible first | exact HB.out | apply ak | apply ah | apply au | refine aA ?_ xW.out) | exact HB.out)⟩⟩
  · rw [if_neg c4] at H
    have vT : decide (aT < 1) = false := decide_eq_false c4
    clear c4
    (first | rw [vT] | (simp only [dA, dB]; rw [vT]) | skip)
    by_cases c6 : aT > 8
    · rw [if_pos c6] at H
      have qC : decide (8 < aT) = true := decide_eq_true c6
      clear c6
      have H' := aj.mk H
      clear H
      have Ux : w3.cell? ⟨ji, 0, none⟩ = some (.int .i64 aT) := (az dU.out 0).trans rfl
      have Uw : w3.cell? ⟨ji, 1, none⟩ = some (.int .i64 aZ) := (az dU.out 1).trans rfl
      have Uu : w3.cell? ⟨ji, 2, none⟩ = some (.slice bK aY.length bJ) := (az dU.out 2).trans rfl
      have Us := ay dU.out 0
      have Ur := ay dU.out 1
      have Uo := ay dU.out 2
      go_wp2
      go_meet
      case rel => exact ⟨_, (true), (by first | rfl | (simp; done) | (simp [*]; done)), H', ⟨by first | omega | exact Nat.le_refl _⟩, ⟨by (with_reducible repeat (first | refine aB ?_ _ | refine aF ?_ | refine aC ?_ _)); exact dU.out⟩, ⟨by repeat (first | (with_reducible first | exact HB.out | apply ak | apply ah | apply au | refine aA ?_ xW.out) | exact HB.out)⟩⟩
    · rw [if_neg c6] at H
      have qC : decide (8 < aT) = false := decide_eq_false c6
      clear c6
      by_cases c8 : aZ < 1
      · rw [if_pos c8] at H
        have zW : decide (aZ < 1) = true := decide_eq_true c8
        clear c8
        have H' := aj.mk H
        clear H
        have um : w3.cell? ⟨ji, 0, none⟩ = some (.int .i64 aT) := (az dU.out 0).trans rfl
        have vM : w3.cell? ⟨ji, 1, none⟩ = some (.int .i64 aZ) := (az dU.out 1).trans rfl
        have vK : w3.cell? ⟨ji, 2, none⟩ = some (.slice bK aY.length bJ) := (az dU.out 2).trans rfl
        have uk := ay dU.out 0
        have vH := ay dU.out 1
        have vG := ay dU.out 2
        go_wp2
        go_meet
        case rel => exact ⟨_, (true), (by first | rfl | (simp; done) | (simp [*]; done)), H', ⟨by first | omega | exact Nat.le_refl _⟩, ⟨by (with_reducible repeat (first | refine aB ?_ _ | refine aF ?_ | refine aC ?_ _)); exact dU.out⟩, ⟨by repeat (first | (with_reducible first | exact HB.out | apply ak | apply ah | apply au | refine aA ?_ xW.out) | exact HB.out)⟩⟩
      · rw [if_neg c8] at H
        have zW : decide (aZ < 1) = false := decide_eq_false c8
        clear c8
        by_cases c10 : aZ > 8
        · rw [if_pos c10] at H
          have vV : decide (8 < aZ) = true := decide_eq_true c10
          clear c10
          have H' := aj.mk H
          clear H
          have Cm : w3.cell? ⟨ji, 0, none⟩ = some (.int .i64 aT) := (az dU.out 0).trans rfl
          have Cj : w3.cell? ⟨ji, 1, none⟩ = some (.int .i64 aZ) := (az dU.out 1).trans rfl
          have Ci : w3.cell? ⟨ji, 2, none⟩ = some (.slice bK aY.length bJ) := (az dU.out 2).trans rfl
          have Ce := ay dU.out 0
          have Cc := ay dU.out 1
          have Cb := ay dU.out 2
          go_wp2
          go_meet
          case rel => exact ⟨_, (true), (by first | rfl | (simp; done) | (simp [*]; done)), H', ⟨by first | omega | exact Nat.le_refl _⟩, ⟨by (with_reducible repeat (first | refine aB ?_ _ | refine aF ?_ | refine aC ?_ _)); exact dU.out⟩, ⟨by repeat (first | (with_reducible first | exact HB.out | apply ak | apply ah | apply au | refine aA ?_ xW.out) | exact HB.out)⟩⟩
        · rw [if_neg c10] at H
          have vV : decide (8 < aZ) = false := decide_eq_false c10
          clear c10
          have H' := aj.mk H
          clear H
          have pF : w3.cell? ⟨ji, 0, none⟩ = some (.int .i64 aT) := (az dU.out 0).trans rfl
          have pz : w3.cell? ⟨ji, 1, none⟩ = some (.int .i64 aZ) := (az dU.out 1).trans rfl
          have pq : w3.cell? ⟨ji, 2, none⟩ = some (.slice bK aY.length bJ) := (az dU.out 2).trans rfl
          have pg := ay dU.out 0
          have o_ := ay dU.out 1
          have o9 := ay dU.out 2
          go_wp2
          go_meet
          case rel => exact ⟨_, (((aY.length : Int) != (wrap64 (aT * aZ)))), (by first | rfl | (simp; done) | (simp [*]; done)), H', ⟨by first | omega | exact Nat.le_refl _⟩, ⟨by (with_reducible repeat (first | refine aB ?_ _ | refine aF ?_ | refine aC ?_ _)); exact dU.out⟩, ⟨by repeat (first | (with_reducible first | exact HB.out | apply ak | apply ah | apply au | refine aA ?_ xW.out) | exact HB.out)⟩⟩
 case rest =>
  clear HC2
  try clear c1
  try clear p2
  try clear c4
  try clear vT
  try clear c6
  try clear qC
  try clear p6
  try clear c7
  try clear c8
  try clear zW
  try clear c10
  try clear vV
  try clear Cm
  try clear Cj
  try clear Ci
  try clear pF
  try clear pz
  try clear pq
  try clear NV
  try clear NS
  try clear NM
  try clear Ux
  try clear Uw
  try clear Uu
  try clear um
  try clear vM
  try clear vK
  try clear Ce
  try clear Cc
  try clear Cb
  try clear pg
  try clear o_
  try clear o9
  try clear NI
  try clear NH
  try clear NF
  try clear Us
  try clear Ur
  try clear Uo
  try clear uk
  try clear vH
  try clear vG
  obtain ⟨kq, OT, rfl, HA, HJ1, dU, HB⟩ := hcut
  cases kq with
  | zero => exact absurd HA.out (by simp [aG.j0])
  | succ kj1 =>
    have H := HA.out
    clear HA
    simp only [aG.j0] at H
    by_cases c13 : OT = true
    · subst c13
      rw [if_pos rfl] at H
      obtain rfl := Option.some.inj H
      go_wp2
      go_ret
      exact ⟨by first | rfl | (simp [aN, aK] <;> rfl) | (simp [*, aN, aK] <;> rfl), by repeat (first | (with_reducible first | exact HB.out | apply ak | apply ah | apply au | refine aA ?_ xW.out) | exact HB.out)⟩
    · replace c13 := Bool.eq_false_iff.mpr c13
      subst c13
      have H1 : (aG.l0 kj1 0 aT aZ aY) = some r := by rw [if_neg (show ¬ (false = true) by decide)] at H; exact H
      clear H
      have H := H1
      clear H1
      have H' := aj.mk H
      clear H
      go_wp2
      go_loopg [3] kj1 (fun kq v3 w' => ∃ (rY : Int), v3 = .int .i64 rY ∧ aj (aG.l0 kq rY aT aZ aY = some r) ∧ aj (kq ≤ kj1) ∧ aj (w'.heap[ji]? = some (.cells #[.int .i64 aT, .int .i64 aZ, (.slice bK aY.length bJ)] 31 (0, 0))) ∧ aj (Below w.heap.size w w'))
      case atStart => exact ⟨(0), (by first | rfl | (simp; done) | (simp [*]; done)), H', ⟨Nat.le_refl _⟩, ⟨by (with_reducible repeat (first | refine aB ?_ _ | refine aF ?_ | refine aC ?_ _)); exact dU.out⟩, ⟨by repeat (first | (with_reducible first | exact HB.out | apply ak | apply ah | apply au | refine aA ?_ xW.out) | exact HB.out)⟩⟩
      case round =>
       clear H'
       try clear c1
       try clear p2
       try clear c4
       try clear vT
       try clear c6
       try clear qC
       try clear p6
       try clear c7
       try clear c8
       try clear zW
       try clear c10
       try clear vV
       try clear c13
       try clear Cm
       try clear Cj
       try clear Ci
       try clear pF
       try clear pz
       try clear pq
       try clear NV
       try clear NS
       try clear NM
       try clear Ux
       try clear Uw
       try clear Uu
       try clear um
       try clear vM
       try clear vK
       try clear Ce
       try clear Cc
       try clear Cb
       try clear pg
       try clear o_
       try clear o9
       try clear NI
       try clear NH
       try clear NF
       try clear Us
       try clear Ur
       try clear Uo
       try clear uk
       try clear vH
       try clear vG
       try clear p2
       try clear p6
       obtain ⟨rY, rfl, HA, Jo, dU, HB⟩ := hrel
       cases gk with
       | zero => exact absurd HA.out (by simp [aG.l0])
       | succ k2 =>
         have H := HA.out
         clear HA
         simp only [aG.l0] at H
         by_cases c14 : rY < (aY.length : Int)
         · rw [if_pos c14] at H
           have oP : decide (rY < (aY.length : Int)) = true := decide_eq_true c14
           clear c14
           by_cases c15 : 0 ≤ rY
           · rw [if_pos c15] at H
             have Vj : decide (0 ≤ rY) = true := decide_eq_true c15
             clear c15
             replace H := Option.bind_eq_some_iff.mp H
             obtain ⟨t191, Lj, H⟩ := H
             replace H : (if t191 = true then (aG.l0 k2 (wrap64 (rY + 1)) aT aZ aY) else (some false)) = some r := H
             have Qo := aj.mk Lj
             clear Lj
             by_cases c17 : t191 = true
             · subst c17
               rw [if_pos rfl] at H
               have H' := aj.mk H
               clear H
               have PM : wr.cell? ⟨ji, 0, none⟩ = some (.int .i64 aT) := (az dU.out 0).trans rfl
               have Xq : wr.cell? ⟨ji, 1, none⟩ = some (.int .i64 aZ) := (az dU.out 1).trans rfl
               have Xp : wr.cell? ⟨ji, 2, none⟩ = some (.slice bK aY.length bJ) := (az dU.out 2).trans rfl
               have PK := ay dU.out 0
               have WW := ay dU.out 1
               have WV := ay dU.out 2
               have Nb : 0 ≤ (rY : Int) := of_decide_eq_true (by first | (with_reducible assumption) | assumption)
               have MM : rY < (aY.length : Int) := of_decide_eq_true (by first | (with_reducible assumption) | assumption)
               obtain ⟨acA, e190, uj⟩ := Kd.iF mG.out rY Nb MM
               cases e190
               replace uj := (HB.out.cell (World.block_lt_of_cell? w _ uj)).trans uj
               replace Nb := eq_true Nb
               replace MM := eq_true MM
               go_wp2_with (first | ((with_reducible refine aH (f := 73) rfl ?_); refine bg (some 46) rfl rfl Try.func73 (by kernel_rfl) rfl #[.int .i64 (rd aY rY)] rfl (by (try simp only [List.map_toArray, List.map_cons, List.map_nil]); first | done | rfl | (simp only [List.length_drop, List.length_take]; rfl)) ?_; (with_reducible refine (fH.calls (rd aY rY) true _ Qo.out).mono ?_); rintro e w' ⟨rfl, ⟨nd, rfl⟩⟩; refine ⟨_, rfl, ?_⟩))
               go_roundg k2
               case measure => have := HJ1.out; have := Jo.out; omega
               case rel => exact ⟨(wrap64 (rY + 1)), (by first | rfl | (simp; done) | (simp [*]; done)), H', ⟨by have := HJ1.out; have := Jo.out; omega⟩, ⟨by (with_reducible repeat (first | refine aB ?_ _ | refine aF ?_ | refine aC ?_ _)); exact dU.out⟩, ⟨by repeat (first | (with_reducible first | exact HB.out | apply ak | apply ah | apply au | refine aA ?_ xW.out) | exact HB.out)⟩⟩
             · replace c17 := Bool.eq_false_iff.mpr c17
               subst c17
               have H1 : (some false) = some r := by rw [if_neg (show ¬ (false = true) by decide)] at H; exact H
               clear H
               have H := H1
               clear H1
               obtain rfl := Option.some.inj H
               have Xo : wr.cell? ⟨ji, 0, none⟩ = some (.int .i64 aT) := (az dU.out 0).trans rfl
               have Xn : wr.cell? ⟨ji, 1, none⟩ = some (.int .i64 aZ) := (az dU.out 1).trans rfl
               have Xm : wr.cell? ⟨ji, 2, none⟩ = some (.slice bK aY.length bJ) := (az dU.out 2).trans rfl
               have WU := ay dU.out 0
               have WT := ay dU.out 1
               have WS := ay dU.out 2
               have Nb : 0 ≤ (rY : Int) := of_decide_eq_true (by first | (with_reducible assumption) | assumption)
               have MM : rY < (aY.length : Int) := of_decide_eq_true (by first | (with_reducible assumption) | assumption)
               obtain ⟨acA, e190, uj⟩ := Kd.iF mG.out rY Nb MM
               cases e190
               replace uj := (HB.out.cell (World.block_lt_of_cell? w _ uj)).trans uj
               replace Nb := eq_true Nb
               replace MM := eq_true MM
               go_wp2_with (first | ((with_reducible refine aH (f := 73) rfl ?_); refine bg (some 46) rfl rfl Try.func73 (by kernel_rfl) rfl #[.int .i64 (rd aY rY)] rfl (by (try simp only [List.map_toArray, List.map_cons, List.map_nil]); first | done | rfl | (simp only [List.length_drop, List.length_take]; rfl)) ?_; (with_reducible refine (fH.calls (rd aY rY) false _ Qo.out).mono ?_); rintro e w' ⟨rfl, ⟨nd, rfl⟩⟩; refine ⟨_, rfl, ?_⟩))
               go_ret
               exact ⟨by first | rfl | (simp [aN, aK] <;> rfl) | (simp [*, aN, aK] <;> rfl), by repeat (first | (with_reducible first | exact HB.out | apply ak | apply ah | apply au | refine aA ?_ xW.out) | exact HB.out)⟩
           · rw [if_neg c15] at H
             exact absurd H (by simp)
         · rw [if_neg c14] at H
           have oP : decide (rY < (aY.length : Int)) = false := decide_eq_false c14
           clear c14
           obtain rfl := Option.some.inj H
           have afq : wr.cell? ⟨ji, 0, none⟩ = some (.int .i64 aT) := (az dU.out 0).trans rfl
           have afp : wr.cell? ⟨ji, 1, none⟩ = some (.int .i64 aZ) := (az dU.out 1).trans rfl
           have afo : wr.cell? ⟨ji, 2, none⟩ = some (.slice bK aY.length bJ) := (az dU.out 2).trans rfl
           have aeN := ay dU.out 0
           have aeM := ay dU.out 1
           have aeL := ay dU.out 2
           go_wp2
           go_ret
           exact ⟨by first | rfl | (simp [aN, aK] <;> rfl) | (simp [*, aN, aK] <;> rfl), by repeat (first | (with_reducible first | exact HB.out | apply ak | apply ah | apply au | refine aA ?_ xW.out) | exact HB.out)⟩
end Go.Proofs.Ytnijhjbcjeohhaa.PQ

namespace Go.Proofs.Ytnijhjbcjeohhaa.PQ
open Go.RowKit Go.Proofs.af.aO Go.Proofs.af.aV Go.Proofs.af.aX
attribute [local go_sem] iU iR jU jT gY gX iT iQ
set_option linter.unusedVariables false
set_option linter.unusedSimpArgs false
mutual
def aJ.j0 : Nat → Int → Bool → Int → Int → List Int → Int → Int → List Int → Option (Bool)
 | 0, _, _, _, _, _, _, _, _ => none
 | k + 1, x5, x42, wJ, wI, wH, wG, wF, lQ => if x42 = true then (some false) else (aJ.l0 k x5 0 wJ wI wH wG wF lQ)
def aJ.l0 : Nat → Int → Int → Int → Int → List Int → Int → Int → List Int → Option (Bool)
 | 0, _, _, _, _, _, _, _, _ => none
 | k + 1, x5, x6, wJ, wI, wH, wG, wF, lQ => if x6 < x5 then (if 0 ≤ (wrap64 ((wrap64 (x6 * x5)) + x6)) then (if (wrap64 ((wrap64 (x6 * x5)) + x6)) < (lQ.length : Int) then (if (rd lQ (wrap64 ((wrap64 (x6 * x5)) + x6))) < 0 then (some false) else (aJ.l1 k x5 x6 0 wJ wI wH wG wF lQ)) else (none)) else (none)) else (some true)
def aJ.l1 : Nat → Int → Int → Int → Int → Int → List Int → Int → Int → List Int → Option (Bool)
 | 0, _, _, _, _, _, _, _, _, _ => none
 | k + 1, x5, x6, x7, wJ, wI, wH, wG, wF, lQ => if x7 < x6 then (if 0 ≤ (wrap64 ((wrap64 (x6 * x5)) + x7)) then (if (wrap64 ((wrap64 (x6 * x5)) + x7)) < (lQ.length : Int) then (if 0 ≤ (wrap64 ((wrap64 (x7 * x5)) + x6)) then (if (wrap64 ((wrap64 (x7 * x5)) + x6)) < (lQ.length : Int) then (if (rd lQ (wrap64 ((wrap64 (x6 * x5)) + x7))) = (rd lQ (wrap64 ((wrap64 (x7 * x5)) + x6))) then (aJ.l1 k x5 x6 (wrap64 (x7 + 1)) wJ wI wH wG wF lQ) else (some false)) else (none)) else (none)) else (none)) else (none)) else (aJ.l0 k x5 (wrap64 (x6 + 1)) wJ wI wH wG wF lQ)
end
def aJ.f (k : Nat) (aT : Int) (aZ : Int) (aY : List Int) (b_ : Int) (dw : Int) (bT : List Int) : Option (Bool) := (aG.f k aT aZ aY).bind fun t193 => ((aG.f k b_ dw bT).bind fun t194 => (if t193 = true then (if t194 = true then (if aZ = 1 then (if b_ = aT then (aJ.j0 k aT (dw != aT) aT aZ aY b_ dw bT) else (aJ.j0 k aT true aT aZ aY b_ dw bT)) else (aJ.j0 k aT true aT aZ aY b_ dw bT)) else (aJ.j0 k aT true aT aZ aY b_ dw bT)) else (aJ.j0 k aT true aT aZ aY b_ dw bT)))
theorem aJ.calls (k : Nat) (aT : Int) (aZ : Int) (bK : Option Addr) (bJ : Nat) (aY : List Int) (b_ : Int) (dw : Int) (gW : Option Addr) (gu : Nat) (bT : List Int) (r : Bool) (w : World) (iV : Kd.C (Kd.int .i64) w bK aY.length aY) (jy : aY.length ≤ bJ) (AU : Kd.C (Kd.int .i64) w gW bT.length bT) (AV : bT.length ≤ gu) (h : aJ.f k aT aZ aY b_ dw bT = some r) :
 Calls Try.prog 41 #[.agg #[.int .i64 aT, .int .i64 aZ, .slice bK aY.length bJ, .int .i64 b_, .int .i64 dw, .slice gW bT.length gu]] w fun e w' => e = .returned (.bool r) ∧ Below w.heap.size w w' := by
 have abH := Try.underlying33
 have Ig := Try.underlying31
 have mG := aj.mk iV
 have oV := aj.mk jy
 clear iV jy
 have uG := aj.mk AU
 have GK := aj.mk AV
 clear AU AV
 have HB := aj.mk (Below.refl w.heap.size w)
 have H : ((aG.f k aT aZ aY).bind fun t193 => ((aG.f k b_ dw bT).bind fun t194 => (if t193 = true then (if t194 = true then (if aZ = 1 then (if b_ = aT then (aJ.j0 k aT (dw != aT) aT aZ aY b_ dw bT) else (aJ.j0 k aT true aT aZ aY b_ dw bT)) else (aJ.j0 k aT true aT aZ aY b_ dw bT)) else (aJ.j0 k aT true aT aZ aY b_ dw bT)) else (aJ.j0 k aT true aT aZ aY b_ dw bT)))) = some r := h
 clear h
 replace H := Option.bind_eq_some_iff.mp H
 obtain ⟨t193, YU, H⟩ := H
 replace H : ((aG.f k b_ dw bT).bind fun t194 => (if t193 = true then (if t194 = true then (if aZ = 1 then (if b_ = aT then (aJ.j0 k aT (dw != aT) aT aZ aY b_ dw bT) else (aJ.j0 k aT true aT aZ aY b_ dw bT)) else (aJ.j0 k aT true aT aZ aY b_ dw bT)) else (aJ.j0 k aT true aT aZ aY b_ dw bT)) else (aJ.j0 k aT true aT aZ aY b_ dw bT))) = some r := H
 have A2 := aj.mk YU
 clear YU
 replace H := Option.bind_eq_some_iff.mp H
 obtain ⟨t194, BD, H⟩ := H
 replace H : (if t193 = true then (if t194 = true then (if aZ = 1 then (if b_ = aT then (aJ.j0 k aT (dw != aT) aT aZ aY b_ dw bT) else (aJ.j0 k aT true aT aZ aY b_ dw bT)) else (aJ.j0 k aT true aT aZ aY b_ dw bT)) else (aJ.j0 k aT true aT aZ aY b_ dw bT)) else (aJ.j0 k aT true aT aZ aY b_ dw bT)) = some r := H
 have A3 := aj.mk BD
 clear BD
 have HC4 := aj.mk H
 clear H
 go_enter Try.func41, Try.ntmps41
 go_upto_region 4 with (first | ((with_reducible refine dH (N := 1) rfl ?_); refine cu ?hg (N := 1) ?hd (cs := #[.int .i64 aT, .int .i64 aZ, .slice bK aY.length bJ, .int .i64 b_, .int .i64 dw, .slice gW bT.length gu]) (t := 33) ?hr ?_; (case hd => rfl); (case hg => rfl); (case hr => first | (go_simp; done) | (go_simp; rfl)); intro bD hg w5 hbox hb; have bF := aj.mk (aP (by repeat (first | (with_reducible first | exact HB.out | apply ak | apply ah | apply au) | exact HB.out)) hb); have dS := aj.mk (hbox); have eu := aj.mk ((by rw [hg]; exact (bf (by repeat (first | (with_reducible first | exact HB.out | apply ak | apply ah | apply au) | exact HB.out))) : w.heap.size ≤ bD)); have fM := aj.mk ((by rw [hg]; exact (bf (by repeat (first | (with_reducible first | exact HB.out | apply ak | apply ah | apply au) | exact HB.out))) : w.heap.size ≤ bD)); clear HB; have HB := bF; have aU := dS; have YQ := eu; have lN := fM; clear bF dS eu fM; clear hb hbox hg; have vO : w5.cell? ⟨bD, 0, none⟩ = some (.int .i64 aT) := (az aU.out 0).trans rfl; have vN : w5.cell? ⟨bD, 1, none⟩ = some (.int .i64 aZ) := (az aU.out 1).trans rfl; have yf : w5.cell? ⟨bD, 2, none⟩ = some (.slice bK aY.length bJ) := (az aU.out 2).trans rfl; have Ee : w5.cell? ⟨bD, 3, none⟩ = some (.int .i64 b_) := (az aU.out 3).trans rfl; have Ed : w5.cell? ⟨bD, 4, none⟩ = some (.int .i64 dw) := (az aU.out 4).trans rfl; have Ec : w5.cell? ⟨bD, 5, none⟩ = some (.slice gW bT.length gu) := (az aU.out 5).trans rfl; have vJ := ay aU.out 0; have vI := ay aU.out 1; have yc := ay aU.out 2; have D5 := ay aU.out 3; have DZ := ay aU.out 4; have DY := ay aU.out 5) | (go_at_call 72; (with_reducible refine (aG.calls k aT aZ _ _ aY t193 _ ?fU ?fQ A2.out).mono ?_); (case fU => repeat (first | exact (Kd.fO mG.out HB.out) | (with_reducible refine Kd.gK ?_ _) | (with_reducible refine Kd.gJ ?_ _) | (with_reducible refine Kd.jh ?_))); (case fQ => exact oV.out); rintro e w7 ⟨rfl, hb⟩; have bF := aj.mk (bz (g := bD) (o := .cells #[.int .i64 aT, .int .i64 aZ, .slice bK aY.length bJ, .int .i64 b_, .int .i64 dw, .slice gW bT.length gu] 33 (0, 0)) (by (with_reducible repeat (first | refine aB ?_ _ | refine aF ?_ | refine aC ?_ _)); exact aU.out) hb); have dS := aj.mk (aP (by repeat (first | (with_reducible first | exact HB.out | apply ak | apply ah | apply au | refine aA ?_ lN.out) | exact HB.out)) hb); clear aU; clear HB; have aU := bF; have HB := dS; clear bF dS; (try clear hb); (try clear hb2); (try clear hk); (try clear hi); have Eb : w7.cell? ⟨bD, 0, none⟩ = some (.int .i64 aT) := (az aU.out 0).trans rfl; have Ea : w7.cell? ⟨bD, 1, none⟩ = some (.int .i64 aZ) := (az aU.out 1).trans rfl; have D_ : w7.cell? ⟨bD, 2, none⟩ = some (.slice bK aY.length bJ) := (az aU.out 2).trans rfl; have D9 : w7.cell? ⟨bD, 3, none⟩ = some (.int .i64 b_) := (az aU.out 3).trans rfl; have D8 : w7.cell? ⟨bD, 4, none⟩ = some (.int .i64 dw) := (az aU.out 4).trans rfl; have D7 : w7.cell? ⟨bD, 5, none⟩ = some (.slice gW bT.length gu) := (az aU.out 5).trans rfl; have DW := ay aU.out 0; have DU := ay aU.out 1; have DT := ay aU.out 2; have DR := ay aU.out 3; have DN := ay aU.out 4; have DL := ay aU.out 5) | (go_at_call 72; (with_reducible refine (aG.calls k b_ dw _ _ bT t194 _ ?fU ?fQ A3.out).mono ?_); (case fU => repeat (first | exact (Kd.fO uG.out HB.out) | (with_reducible refine Kd.gK ?_ _) | (with_reducible refine Kd.gJ ?_ _) | (with_reducible refine Kd.jh ?_))); (case fQ => exact GK.out); rintro e w9 ⟨rfl, hb⟩; have bF := aj.mk (bz (g := bD) (o := .cells #[.int .i64 aT, .int .i64 aZ, .slice bK aY.length bJ, .int .i64 b_, .int .i64 dw, .slice gW bT.length gu] 33 (0, 0)) (by (with_reducible repeat (first | refine aB ?_ _ | refine aF ?_ | refine aC ?_ _)); exact aU.out) hb); have dS := aj.mk (aP (by repeat (first | (with_reducible first | exact HB.out | apply ak | apply ah | apply au | refine aA ?_ lN.out) | exact HB.out)) hb); clear aU; clear HB; have aU := bF; have HB := dS; clear bF dS; (try clear hb); (try clear hb2); (try clear hk); (try clear hi); have nH : w9.cell? ⟨bD, 0, none⟩ = some (.int .i64 aT) := (az aU.out 0).trans rfl; have nG : w9.cell? ⟨bD, 1, none⟩ = some (.int .i64 aZ) := (az aU.out 1).trans rfl; have nD : w9.cell? ⟨bD, 2, none⟩ = some (.slice bK aY.length bJ) := (az aU.out 2).trans rfl; have ru : w9.cell? ⟨bD, 3, none⟩ = some (.int .i64 b_) := (az aU.out 3).trans rfl; have qZ : w9.cell? ⟨bD, 4, none⟩ = some (.int .i64 dw) := (az aU.out 4).trans rfl; have qY : w9.cell? ⟨bD, 5, none⟩ = some (.slice gW bT.length gu) := (az aU.out 5).trans rfl; have nC := ay aU.out 0; have ni := ay aU.out 1; have ng := ay aU.out 2; have qX := ay aU.out 3; have qW := ay aU.out 4; have qV := ay aU.out 5))
 repeat (go_quiet (first | ((with_reducible refine dH (N := 1) rfl ?_); refine cu ?hg (N := 1) ?hd (cs := #[.int .i64 aT, .int .i64 aZ, .slice bK aY.length bJ, .int .i64 b_, .int .i64 dw, .slice gW bT.length gu]) (t := 33) ?hr ?_; (case hd => rfl); (case hg => rfl); (case hr => first | (go_simp; done) | (go_simp; rfl)); intro bD hg w5 hbox hb; have bF := aj.mk (aP (by repeat (first | (with_reducible first | exact HB.out | apply ak | apply ah | apply au) | exact HB.out)) hb); have dS := aj.mk (hbox); have eu := aj.mk ((by rw [hg]; exact (bf (by repeat (first | (with_reducible first | exact HB.out | apply ak | apply ah | apply au) | exact HB.out))) : w.heap.size ≤ bD)); have fM := aj.mk ((by rw [hg]; exact (bf (by repeat (first | (with_reducible first | exact HB.out | apply ak | apply ah | apply au) | exact HB.out))) : w.heap.size ≤ bD)); clear HB; have HB := bF; have aU := dS; have YQ := eu; have lN := fM; clear bF dS eu fM; clear hb hbox hg; have vO : w5.cell? ⟨bD, 0, none⟩ = some (.int .i64 aT) := (az aU.out 0).trans rfl; have vN : w5.cell? ⟨bD, 1, none⟩ = some (.int .i64 aZ) := (az aU.out 1).trans rfl; have yf : w5.cell? ⟨bD, 2, none⟩ = some (.slice bK aY.length bJ) := (az aU.out 2).trans rfl; have Ee : w5.cell? ⟨bD, 3, none⟩ = some (.int .i64 b_) := (az aU.out 3).trans rfl; have Ed : w5.cell? ⟨bD, 4, none⟩ = some (.int .i64 dw) := (az aU.out 4).trans rfl; have Ec : w5.cell? ⟨bD, 5, none⟩ = some (.slice gW bT.length gu) := (az aU.out 5).trans rfl; have vJ := ay aU.out 0; have vI := ay aU.out 1; have yc := ay aU.out 2; have D5 := ay aU.out 3; have DZ := ay aU.out 4; have DY := ay aU.out 5) | (go_at_call 72; (with_reducible refine (aG.calls k aT aZ _ _ aY t193 _ ?fU ?fQ A2.out).mono ?_); (case fU => repeat (first | exact (Kd.fO mG.out HB.out) | (with_reducible refine Kd.gK ?_ _) | (with_reducible refine Kd.gJ ?_ _) | (with_reducible refine Kd.jh ?_))); (case fQ => exact oV.out); rintro e w7 ⟨rfl, hb⟩; have bF := aj.mk (bz (g := bD) (o := .cells #[.int .i64 aT, .int .i64 aZ, .slice bK aY.length bJ, .int .i64 b_, .int .i64 dw, .slice gW bT.length gu] 33 (0, 0)) (by (with_reducible repeat (first | refine aB ?_ _ | refine aF ?_ | refine aC ?_ _)); exact aU.out) hb); have dS := aj.mk (aP (by repeat (first | (with_reducible first | exact HB.out | apply ak | apply ah | apply au | refine aA ?_ lN.out) | exact HB.out)) hb); clear aU; clear HB; have aU := bF; have HB := dS; clear bF dS; (try clear hb); (try clear hb2); (try clear hk); (try clear hi); have Eb : w7.cell? ⟨bD, 0, none⟩ = some (.int .i64 aT) := (az aU.out 0).trans rfl; have Ea : w7.cell? ⟨bD, 1, none⟩ = some (.int .i64 aZ) := (az aU.out 1).trans rfl; have D_ : w7.cell? ⟨bD, 2, none⟩ = some (.slice bK aY.length bJ) := (az aU.out 2).trans rfl; have D9 : w7.cell? ⟨bD, 3, none⟩ = some (.int .i64 b_) := (az aU.out 3).trans rfl; have D8 : w7.cell? ⟨bD, 4, none⟩ = some (.int .i64 dw) := (az aU.out 4).trans rfl; have D7 : w7.cell? ⟨bD, 5, none⟩ = some (.slice gW bT.length gu) := (az aU.out 5).trans rfl; have DW := ay aU.out 0; have DU := ay aU.out 1; have DT := ay aU.out 2; have DR := ay aU.out 3; have DN := ay aU.out 4; have DL := ay aU.out 5) | (go_at_call 72; (with_reducible refine (aG.calls k b_ dw _ _ bT t194 _ ?fU ?fQ A3.out).mono ?_); (case fU => repeat (first | exact (Kd.fO uG.out HB.out) | (with_reducible refine Kd.gK ?_ _) | (with_reducible refine Kd.gJ ?_ _) | (with_reducible refine Kd.jh ?_))); (case fQ => exact GK.out); rintro e w9 ⟨rfl, hb⟩; have bF := aj.mk (bz (g := bD) (o := .cells #[.int .i64 aT, .int .i64 aZ, .slice bK aY.length bJ, .int .i64 b_, .int .i64 dw, .slice gW bT.length gu] 33 (0, 0)) (by (with_reducible repeat (first | refine aB ?_ _ | refine aF ?_ | refine aC ?_ _)); exact aU.out) hb); have dS := aj.mk (aP (by repeat (first | (with_reducible first | exact HB.out | apply ak | apply ah | apply au | refine aA ?_ lN.out) | exact HB.out)) hb); clear aU; clear HB; have aU := bF; have HB := dS; clear bF dS; (try clear hb); (try clear hb2); (try clear hk); (try clear hi); have nH : w9.cell? ⟨bD, 0, none⟩ = some (.int .i64 aT) := (az aU.out 0).trans rfl; have nG : w9.cell? ⟨bD, 1, none⟩ = some (.int .i64 aZ) := (az aU.out 1).trans rfl; have nD : w9.cell? ⟨bD, 2, none⟩ = some (.slice bK aY.length bJ) := (az aU.out 2).trans rfl; have ru : w9.cell? ⟨bD, 3, none⟩ = some (.int .i64 b_) := (az aU.out 3).trans rfl; have qZ : w9.cell? ⟨bD, 4, none⟩ = some (.int .i64 dw) := (az aU.out 4).trans rfl; have qY : w9.cell? ⟨bD, 5, none⟩ = some (.slice gW bT.length gu) := (az aU.out 5).trans rfl; have nC := ay aU.out 0; have ni := ay aU.out 1; have ng := ay aU.out 2; have qX := ay aU.out 3; have qW := ay aU.out 4; have qV := ay aU.out 5)); go_upto_region 4 with (first | ((with_reducible refine dH (N := 1) rfl ?_); refine cu ?hg (N := 1) ?hd (cs := #[.int .i64 aT, .int .i64 aZ, .slice bK aY.length bJ, .int .i64 b_, .int .i64 dw, .slice gW bT.length gu]) (t := 33) ?hr ?_; (case hd => rfl); (case hg => rfl); (case hr => first | (go_simp; done) | (go_simp; rfl)); intro bD hg w5 hbox hb; have bF := aj.mk (aP (by repeat (first | (with_reducible first | exact HB.out | apply ak | apply ah | apply au) | exact HB.out)) hb); have dS := aj.mk (hbox); have eu := aj.mk ((by rw [hg]; exact (bf (by repeat (first | (with_reducible first | exact HB.out | apply ak | apply ah | apply au) | exact HB.out))) : w.heap.size ≤ bD)); have fM := aj.mk ((by rw [hg]; exact (bf (by repeat (first | (with_reducible first | exact HB.out | apply ak | apply ah | apply au) | exact HB.out))) : w.heap.size ≤ bD)); clear HB; have HB := bF; have aU := dS; have YQ := eu; have lN := fM; clear bF dS eu fM; clear hb hbox hg; have vO : w5.cell? ⟨bD, 0, none⟩ = some (.int .i64 aT) := (az aU.out 0).trans rfl; have vN : w5.cell? ⟨bD, 1, none⟩ = some (.int .i64 aZ) := (az aU.out 1).trans rfl; have yf : w5.cell? ⟨bD, 2, none⟩ = some (.slice bK aY.length bJ) := (az aU.out 2).trans rfl; have Ee : w5.cell? ⟨bD, 3, none⟩ = some (.int .i64 b_) := (az aU.out 3).trans rfl; have Ed : w5.cell? ⟨bD, 4, none⟩ = some (.int .i64 dw) := (az aU.out 4).trans rfl; have Ec : w5.cell? ⟨bD, 5, none⟩ = some (.slice gW bT.length gu) := (az aU.out 5).trans rfl; have vJ := ay aU.out 0; have vI := ay aU.out 1; have yc := ay aU.out 2; have D5 := ay aU.out 3; have DZ := ay aU.out 4; have DY := ay aU.out 5) | (go_at_call 72; (with_reducible refine (aG.calls k aT aZ _ _ aY t193 _ ?fU ?fQ A2.out).mono ?_); (case fU => repeat (first | exact (Kd.fO mG.out HB.out) | (with_reducible refine Kd.gK ?_ _) | (with_reducible refine Kd.gJ ?_ _) | (with_reducible refine Kd.jh ?_))); (case fQ => exact oV.out); rintro e w7 ⟨rfl, hb⟩; have bF := aj.mk (bz (g := bD) (o := .cells #[.int .i64 aT, .int .i64 aZ, .slice bK aY.length bJ, .int .i64 b_, .int .i64 dw, .slice gW bT.length gu] 33 (0, 0)) (by (with_reducible repeat (first | refine aB ?_ _ | refine aF ?_ | refine aC ?_ _)); exact aU.out) hb); have dS := aj.mk (aP (by repeat (first | (with_reducible first | exact HB.out | apply ak | apply ah | apply au | refine aA ?_ lN.out) | exact HB.out)) hb); clear aU; clear HB; have aU := bF; have HB := dS; clear bF dS; (try clear hb); (try clear hb2); (try clear hk); (try clear hi); have Eb : w7.cell? ⟨bD, 0, none⟩ = some (.int .i64 aT) := (az aU.out 0).trans rfl; have Ea : w7.cell? ⟨bD, 1, none⟩ = some (.int .i64 aZ) := (az aU.out 1).trans rfl; have D_ : w7.cell? ⟨bD, 2, none⟩ = some (.slice bK aY.length bJ) := (az aU.out 2).trans rfl; have D9 : w7.cell? ⟨bD, 3, none⟩ = some (.int .i64 b_) := (az aU.out 3).trans rfl; have D8 : w7.cell? ⟨bD, 4, none⟩ = some (.int .i64 dw) := (az aU.out 4).trans rfl; have D7 : w7.cell? ⟨bD, 5, none⟩ = some (.slice gW bT.length gu) := (az aU.out 5).trans rfl; have DW := ay aU.out 0; have DU := ay aU.out 1; have DT := ay aU.out 2; have DR := ay aU.out 3; have DN := ay aU.out 4; have DL := ay aU.out 5) | (go_at_call 72; (with_reducible refine (aG.calls k b_ dw _ _ bT t194 _ ?fU ?fQ A3.out).mono ?_); (case fU => repeat (first | exact (Kd.fO uG.out HB.out) | (with_reducible refine Kd.gK ?_ _) | (with_reducible refine Kd.gJ ?_ _) | (with_reducible refine Kd.jh ?_))); (case fQ => exact GK.out); rintro e w9 ⟨rfl, hb⟩; have bF := aj.mk (bz (g := bD) (o := .cells #[.int .i64 aT, .int .i64 aZ, .slice bK aY.length bJ, .int .i64 b_, .int .i64 dw, .slice gW bT.length gu] 33 (0, 0)) (by (with_reducible repeat (first | refine aB ?_ _ | refine aF ?_ | refine aC ?_ _)); exact aU.out) hb); have dS := aj.mk (aP (by repeat (first | (with_reducible first | exact HB.out | apply ak | apply ah | apply au | refine aA ?_ lN.out) | exact HB.out)) hb); clear aU; clear HB; have aU := bF; have HB := dS; clear bF dS; (try clear hb); (try clear hb2); (try clear hk); (try clear hi); have nH : w9.cell? ⟨bD, 0, none⟩ = some (.int .i64 aT) := (az aU.out 0).trans rfl; have nG : w9.cell? ⟨bD, 1, none⟩ = some (.int .i64 aZ) := (az aU.out 1).trans rfl; have nD : w9.cell? ⟨bD, 2, none⟩ = some (.slice bK aY.length bJ) := (az aU.out 2).trans rfl; have ru : w9.cell? ⟨bD, 3, none⟩ = some (.int .i64 b_) := (az aU.out 3).trans rfl; have qZ : w9.cell? ⟨bD, 4, none⟩ = some (.int .i64 dw) := (az aU.out 4).trans rfl; have qY : w9.cell? ⟨bD, 5, none⟩ = some (.slice gW bT.length gu) := (az aU.out 5).trans rfl; have nC := ay aU.out 0; have ni := ay aU.out 1; have ng := ay aU.out 2; have qX := ay aU.out 3; have qW := ay aU.out 4; have qV := ay aU.out 5)))
 (try simp only [Act.put, List.setIfInBounds_toArray, List.set_cons_zero, List.set_cons_succ])
 go_cut [42] (fun v42 wc => ∃ (kq : Nat) (OQ : Bool), v42 = .bool OQ ∧ aj (aJ.j0 kq aT OQ aT aZ aY b_ dw bT = some r) ∧ aj (kq ≤ k) ∧ aj (wc.heap[bD]? = some (.cells #[.int .i64 aT, .int .i64 aZ, (.slice bK aY.length bJ), .int .i64 b_, .int .i64 dw, (.slice gW bT.length gu)] 33 (0, 0))) ∧ aj (Below w.heap.size w wc))
 case first =>
  have H := HC4.out
  clear HC4
  by_cases c11 : t193 = true
  · subst c11
    rw [if_pos rfl] at H
    by_cases c12 : t194 = true
    · subst c12
      rw [if_pos rfl] at H
      by_cases c13 : aZ = 1
      · rw [if_pos c13] at H
        have xR : (aZ == 1) = true := beq_iff_eq.mpr c13
        have PY : (aZ != 1) = false := bne_eq_false_iff_eq.mpr c13
        clear c13
        (first | rw [xR] | (simp only [dA, dB]; rw [xR]) | skip)
        by_cases c14 : b_ = aT
        · rw [if_pos c14] at H
          have oP : (b_ == aT) = true := beq_iff_eq.mpr c14
          have uF : (b_ != aT) = false := bne_eq_false_iff_eq.mpr c14
          clear c14
          have H' := aj.mk H
          clear H
          have xk : w9.cell? ⟨bD, 0, none⟩ = some (.int .i64 aT) := (az aU.out 0).trans rfl
          have xh : w9.cell? ⟨bD, 1, none⟩ = some (.int .i64 aZ) := (az aU.out 1).trans rfl
          have xg : w9.cell? ⟨bD, 2, none⟩ = some (.slice bK aY.length bJ) := (az aU.out 2).trans rfl
          have I8 : w9.cell? ⟨bD, 3, none⟩ = some (.int .i64 b_) := (az aU.out 3).trans rfl
          have I7 : w9.cell? ⟨bD, 4, none⟩ = some (.int .i64 dw) := (az aU.out 4).trans rfl
          have I5 : w9.cell? ⟨bD, 5, none⟩ = some (.slice gW bT.length gu) := (az aU.out 5).trans rfl
          have wY := ay aU.out 0
          have wX := ay aU.out 1
          have wW := ay aU.out 2
          have IB := ay aU.out 3
          have IA := ay aU.out 4
          have Iz := ay aU.out 5
          go_wp2
          repeat (go_quiet (fail); try go_wp2)
          go_meet
          case rel => exact ⟨_, ((dw != aT)), (by first | rfl | (simp; done) | (simp [*]; done)), H', ⟨by first | omega | exact Nat.le_refl _⟩, ⟨by (with_reducible repeat (first | refine aB ?_ _ | refine aF ?_ | refine aC ?_ _)); exact aU.out⟩, ⟨by repeat (first | (with_reducible first | exact HB.out | apply ak | apply ah | apply au | refine aA ?_ lN.out) | exact HB.out)⟩⟩
        · rw [if_neg c14] at H
          have oP : (b_ == aT) = false := beq_eq_false_iff_ne.mpr c14
          have uF : (b_ != aT) = true := bne_iff_ne.mpr c14
          have H' := aj.mk H
          clear H
          have xe : w9.cell? ⟨bD, 0, none⟩ = some (.int .i64 aT) := (az aU.out 0).trans rfl
          have w_ : w9.cell? ⟨bD, 1, none⟩ = some (.int .i64 aZ) := (az aU.out 1).trans rfl
          have wZ : w9.cell? ⟨bD, 2, none⟩ = some (.slice bK aY.length bJ) := (az aU.out 2).trans rfl
          have I4 : w9.cell? ⟨bD, 3, none⟩ = some (.int .i64 b_) := (az aU.out 3).trans rfl
          have IZ : w9.cell? ⟨bD, 4, none⟩ = some (.int .i64 dw) := (az aU.out 4).trans rfl
          have IY : w9.cell? ⟨bD, 5, none⟩ = some (.slice gW bT.length gu) := (az aU.out 5).trans rfl
          have wV := ay aU.out 0
          have wU := ay aU.out 1
          have wS := ay aU.out 2
          have Iy := ay aU.out 3
          have Iw := ay aU.out 4
          have Iu := ay aU.out 5
          go_wp2
          repeat (go_quiet (fail); try go_wp2)
          go_meet
          case rel => exact ⟨_, (true), (by first | rfl | (simp; done) | (simp [*]; done)), H', ⟨by first | omega | exact Nat.le_refl _⟩, ⟨by (with_reducible repeat (first | refine aB ?_ _ | refine aF ?_ | refine aC ?_ _)); exact aU.out⟩, ⟨by repeat (first | (with_reducible first | exact HB.out | apply ak | apply ah | apply au | refine aA ?_ lN.out) | exact HB.out)⟩⟩
      · rw [if_neg c13] at H
        have xR : (aZ == 1) = false := beq_eq_false_iff_ne.mpr c13
        have PY : (aZ != 1) = true := bne_iff_ne.mpr c13
        (first | rw [xR] | (simp only [dA, dB]; rw [xR]) | skip)
        have H' := aj.mk H
        clear H
        have IW : w9.cell? ⟨bD, 0, none⟩ = some (.int .i64 aT) := (az aU.out 0).trans rfl
        have IV : w9.cell? ⟨bD, 1, none⟩ = some (.int .i64 aZ) := (az aU.out 1).trans rfl
        have IU : w9.cell? ⟨bD, 2, none⟩ = some (.slice bK aY.length bJ) := (az aU.out 2).trans rfl
        have IQ : w9.cell? ⟨bD, 3, none⟩ = some (.int .i64 b_) := (az aU.out 3).trans rfl
        have IP : w9.cell? ⟨bD, 4, none⟩ = some (.int .i64 dw) := (az aU.out 4).trans rfl
        have IM : w9.cell? ⟨bD, 5, none⟩ = some (.slice gW bT.length gu) := (az aU.out 5).trans rfl
        have Ir := ay aU.out 0
        have Iq := ay aU.out 1
        have Ip := ay aU.out 2
        have Io := ay aU.out 3
        have Il := ay aU.out 4
        have Ik := ay aU.out 5
        go_wp2
        repeat (go_quiet (fail); try go_wp2)
        go_meet
        case rel => exact ⟨_, (true), (by first | rfl | (simp; done) | (simp [*]; done)), H', ⟨by first | omega | exact Nat.le_refl _⟩, ⟨by (with_reducible repeat (first | refine aB ?_ _ | refine aF ?_ | refine aC ?_ _)); exact aU.out⟩, ⟨by repeat (first | (with_reducible first | exact HB.out | apply ak | apply ah | apply au | refine aA ?_ lN.out) | exact HB.out)⟩⟩
    · replace c12 := Bool.eq_false_iff.mpr c12
      subst c12
      have H1 : (aJ.j0 k aT true aT aZ aY b_ dw bT) = some r := by rw [if_neg (show ¬ (false = true) by decide)] at H; exact H
      clear H
      have H := H1
      clear H1
      have H' := aj.mk H
      clear H
      go_wp2
      repeat (go_quiet (fail); try go_wp2)
      go_meet
      case rel => exact ⟨_, (true), (by first | rfl | (simp; done) | (simp [*]; done)), H', ⟨by first | omega | exact Nat.le_refl _⟩, ⟨by (with_reducible repeat (first | refine aB ?_ _ | refine aF ?_ | refine aC ?_ _)); exact aU.out⟩, ⟨by repeat (first | (with_reducible first | exact HB.out | apply ak | apply ah | apply au | refine aA ?_ lN.out) | exact HB.out)⟩⟩
  · replace c11 := Bool.eq_false_iff.mpr c11
    subst c11
    have H1 : (aJ.j0 k aT true aT aZ aY b_ dw bT) = some r := by rw [if_neg (show ¬ (false = true) by decide)] at H; exact H
    clear H
    have H := H1
    clear H1
    have H' := aj.mk H
    clear H
    go_wp2
    repeat (go_quiet (fail); try go_wp2)
    go_meet
    case rel => exact ⟨_, (true), (by first | rfl | (simp; done) | (simp [*]; done)), H', ⟨by first | omega | exact Nat.le_refl _⟩, ⟨by (with_reducible repeat (first | refine aB ?_ _ | refine aF ?_ | refine aC ?_ _)); exact aU.out⟩, ⟨by repeat (first | (with_reducible first | exact HB.out | apply ak | apply ah | apply au | refine aA ?_ lN.out) | exact HB.out)⟩⟩
 case rest =>
  clear HC4
  try clear c1
  try clear p2
  try clear c4
  try clear c11
  try clear c12
  try clear c13
  try clear xR
  try clear PY
  try clear c14
  try clear oP
  try clear uF
  try clear nH
  try clear nG
  try clear nD
  try clear ru
  try clear qZ
  try clear qY
  try clear xk
  try clear xh
  try clear xg
  try clear I8
  try clear I7
  try clear I5
  try clear xe
  try clear w_
  try clear wZ
  try clear I4
  try clear IZ
  try clear IY
  try clear IW
  try clear IV
  try clear IU
  try clear IQ
  try clear IP
  try clear IM
  try clear vO
  try clear vN
  try clear yf
  try clear Ee
  try clear Ed
  try clear Ec
  try clear Eb
  try clear Ea
  try clear D_
  try clear D9
  try clear D8
  try clear D7
  try clear nC
  try clear ni
  try clear ng
  try clear qX
  try clear qW
  try clear qV
  try clear wY
  try clear wX
  try clear wW
  try clear IB
  try clear IA
  try clear Iz
  try clear wV
  try clear wU
  try clear wS
  try clear Iy
  try clear Iw
  try clear Iu
  try clear Ir
  try clear Iq
  try clear Ip
  try clear Io
  try clear Il
  try clear Ik
  try clear vJ
  try clear vI
  try clear yc
  try clear D5
  try clear DZ
  try clear DY
  try clear DW
  try clear DU
  try clear DT
  try clear DR
  try clear DN
  try clear DL
  obtain ⟨kq, OQ, rfl, HA, HJ3, aU, HB⟩ := hcut
  cases kq with
  | zero => exact absurd HA.out (by simp [aJ.j0])
  | succ kj3 =>
    have H := HA.out
    clear HA
    simp only [aJ.j0] at H
    by_cases c18 : OQ = true
    · subst c18
      rw [if_pos rfl] at H
      obtain rfl := Option.some.inj H
      go_wp2
      repeat (go_quiet (fail); try go_wp2)
      go_ret
      exact ⟨by first | rfl | (simp [aN, aK] <;> rfl) | (simp [*, aN, aK] <;> rfl), by repeat (first | (with_reducible first | exact HB.out | apply ak | apply ah | apply au | refine aA ?_ lN.out) | exact HB.out)⟩
    · replace c18 := Bool.eq_false_iff.mpr c18
      subst c18
      have H1 : (aJ.l0 kj3 aT 0 aT aZ aY b_ dw bT) = some r := by rw [if_neg (show ¬ (false = true) by decide)] at H; exact H
      clear H
      have H := H1
      clear H1
      have H' := aj.mk H
      clear H
      go_wp2
      repeat (go_quiet (fail); try go_wp2)
      go_loopg [6] kj3 (fun kq v6 w' => ∃ (oL : Int), v6 = .int .i64 oL ∧ aj (aJ.l0 kq aT oL aT aZ aY b_ dw bT = some r) ∧ aj (kq ≤ kj3) ∧ aj (w'.heap[bD]? = some (.cells #[.int .i64 aT, .int .i64 aZ, (.slice bK aY.length bJ), .int .i64 b_, .int .i64 dw, (.slice gW bT.length gu)] 33 (0, 0))) ∧ aj (Below w.heap.size w w'))
      case atStart => exact ⟨(0), (by first | rfl | (simp; done) | (simp [*]; done)), H', ⟨Nat.le_refl _⟩, ⟨by (with_reducible repeat (first | refine aB ?_ _ | refine aF ?_ | refine aC ?_ _)); exact aU.out⟩, ⟨by repeat (first | (with_reducible first | exact HB.out | apply ak | apply ah | apply au | refine aA ?_ lN.out) | exact HB.out)⟩⟩
      case round =>
       clear H'
       try clear c1
       try clear p2
       try clear c4
       try clear c11
       try clear c12
       try clear c13
       try clear xR
       try clear PY
       try clear c14
       try clear oP
       try clear uF
       try clear c18
       try clear nH
       try clear nG
       try clear nD
       try clear ru
       try clear qZ
       try clear qY
       try clear xk
       try clear xh
       try clear xg
       try clear I8
       try clear I7
       try clear I5
       try clear xe
       try clear w_
       try clear wZ
       try clear I4
       try clear IZ
       try clear IY
       try clear IW
       try clear IV
       try clear IU
       try clear IQ
       try clear IP
       try clear IM
       try clear vO
       try clear vN
       try clear yf
       try clear Ee
       try clear Ed
       try clear Ec
       try clear Eb
       try clear Ea
       try clear D_
       try clear D9
       try clear D8
       try clear D7
       try clear nC
       try clear ni
       try clear ng
       try clear qX
       try clear qW
       try clear qV
       try clear wY
       try clear wX
       try clear wW
       try clear IB
       try clear IA
       try clear Iz
       try clear wV
       try clear wU
       try clear wS
       try clear Iy
       try clear Iw
       try clear Iu
       try clear Ir
       try clear Iq
       try clear Ip
       try clear Io
       try clear Il
       try clear Ik
       try clear vJ
       try clear vI
       try clear yc
       try clear D5
       try clear DZ
       try clear DY
       try clear DW
       try clear DU
       try clear DT
       try clear DR
       try clear DN
       try clear DL
       try clear p2
       obtain ⟨oL, rfl, HA, Jo, aU, HB⟩ := hrel
       cases gk with
       | zero => exact absurd HA.out (by simp [aJ.l0])
       | succ k2 =>
         have H := HA.out
         clear HA
         simp only [aJ.l0] at H
         by_cases c19 : oL < aT
         · rw [if_pos c19] at H
           have Vh : decide (oL < aT) = true := decide_eq_true c19
           clear c19
           obtain ⟨vw, J9⟩ : ∃ j_ : Int, (wrap64 ((wrap64 (oL * aT)) + oL)) = j_ := ⟨_, rfl⟩
           replace H : (if 0 ≤ (vw) then (if (vw) < (bT.length : Int) then (if (rd bT (vw)) < 0 then (some false) else (aJ.l1 k2 aT oL 0 aT aZ aY b_ dw bT)) else (none)) else (none)) = some r := by first | (rw [J9] at H; exact H) | (simp only [J9] at H ⊢; exact H)
           have agY : (IntKind.i64.wrap ((wrap64 (oL * aT)) + oL)) = vw := (dA _).trans J9
           by_cases c21 : 0 ≤ (vw)
           · rw [if_pos c21] at H
             have sQ : decide (0 ≤ (vw)) = true := decide_eq_true c21
             clear c21
             by_cases EZ : (vw) < (bT.length : Int)
             · rw [if_pos EZ] at H
               have acn : decide ((vw) < (bT.length : Int)) = true := decide_eq_true EZ
               clear EZ
               by_cases c23 : (rd bT (vw)) < 0
               · rw [if_pos c23] at H
                 have Eu : decide ((rd bT (vw)) < 0) = true := decide_eq_true c23
                 clear c23
                 obtain rfl := Option.some.inj H
                 have IL : wr.cell? ⟨bD, 0, none⟩ = some (.int .i64 aT) := (az aU.out 0).trans rfl
                 have IK : wr.cell? ⟨bD, 1, none⟩ = some (.int .i64 aZ) := (az aU.out 1).trans rfl
                 have IJ : wr.cell? ⟨bD, 2, none⟩ = some (.slice bK aY.length bJ) := (az aU.out 2).trans rfl
                 have Xi : wr.cell? ⟨bD, 3, none⟩ = some (.int .i64 b_) := (az aU.out 3).trans rfl
                 have Xh : wr.cell? ⟨bD, 4, none⟩ = some (.int .i64 dw) := (az aU.out 4).trans rfl
                 have Xg : wr.cell? ⟨bD, 5, none⟩ = some (.slice gW bT.length gu) := (az aU.out 5).trans rfl
                 have Ij := ay aU.out 0
                 have Ii := ay aU.out 1
                 have Ih := ay aU.out 2
                 have WN := ay aU.out 3
                 have WM := ay aU.out 4
                 have WL := ay aU.out 5
                 have JK : 0 ≤ ((vw) : Int) := of_decide_eq_true (by first | (with_reducible assumption) | assumption)
                 have JI : (vw) < (bT.length : Int) := of_decide_eq_true (by first | (with_reducible assumption) | assumption)
                 obtain ⟨Bi, e195, qU⟩ := Kd.iF uG.out (vw) JK JI
                 cases e195
                 replace qU := (HB.out.cell (World.block_lt_of_cell? w _ qU)).trans qU
                 replace JK := eq_true JK
                 replace JI := eq_true JI
                 go_wp2
                 repeat (go_quiet (fail); try go_wp2)
                 go_ret
                 exact ⟨by first | rfl | (simp [aN, aK] <;> rfl) | (simp only [← J9]; first | rfl | (simp [aN, aK] <;> rfl)) | (simp [*, aN, aK] <;> rfl), by repeat (first | (with_reducible first | exact HB.out | apply ak | apply ah | apply au | refine aA ?_ lN.out) | exact HB.out)⟩
               · rw [if_neg c23] at H
                 have Eu : decide ((rd bT (vw)) < 0) = false := decide_eq_false c23
                 clear c23
                 have H' := aj.mk H
                 clear H
                 have Xf : wr.cell? ⟨bD, 0, none⟩ = some (.int .i64 aT) := (az aU.out 0).trans rfl
                 have Xe : wr.cell? ⟨bD, 1, none⟩ = some (.int .i64 aZ) := (az aU.out 1).trans rfl
                 have Xd : wr.cell? ⟨bD, 2, none⟩ = some (.slice bK aY.length bJ) := (az aU.out 2).trans rfl
                 have Xc : wr.cell? ⟨bD, 3, none⟩ = some (.int .i64 b_) := (az aU.out 3).trans rfl
                 have Xb : wr.cell? ⟨bD, 4, none⟩ = some (.int .i64 dw) := (az aU.out 4).trans rfl
                 have Xa : wr.cell? ⟨bD, 5, none⟩ = some (.slice gW bT.length gu) := (az aU.out 5).trans rfl
                 have WJ := ay aU.out 0
                 have WI := ay aU.out 1
                 have WH := ay aU.out 2
                 have WG := ay aU.out 3
                 have WE := ay aU.out 4
                 have WC := ay aU.out 5
                 have JK : 0 ≤ ((vw) : Int) := of_decide_eq_true (by first | (with_reducible assumption) | assumption)
                 have JI : (vw) < (bT.length : Int) := of_decide_eq_true (by first | (with_reducible assumption) | assumption)
                 obtain ⟨Bi, e195, qU⟩ := Kd.iF uG.out (vw) JK JI
                 cases e195
                 replace qU := (HB.out.cell (World.block_lt_of_cell? w _ qU)).trans qU
                 replace JK := eq_true JK
                 replace JI := eq_true JI
                 go_wp2
                 repeat (go_quiet (fail); try go_wp2)
                 go_loopg [7] k2 (fun kq v7 w' => ∃ (rH : Int), v7 = .int .i64 rH ∧ aj (aJ.l1 kq aT oL rH aT aZ aY b_ dw bT = some r) ∧ aj (kq ≤ k2) ∧ aj (w'.heap[bD]? = some (.cells #[.int .i64 aT, .int .i64 aZ, (.slice bK aY.length bJ), .int .i64 b_, .int .i64 dw, (.slice (some Bi) bT.length gu)] 33 (0, 0))) ∧ aj (Below w.heap.size w w'))
                 case atStart => exact ⟨(0), (by first | rfl | (simp; done) | (simp [*]; done)), H', ⟨Nat.le_refl _⟩, ⟨by (with_reducible repeat (first | refine aB ?_ _ | refine aF ?_ | refine aC ?_ _)); exact aU.out⟩, ⟨by repeat (first | (with_reducible first | exact HB.out | apply ak | apply ah | apply au | refine aA ?_ lN.out) | exact HB.out)⟩⟩
                 case round =>
                  clear H'
                  try clear c1
                  try clear p1
                  try clear q1
                  try clear hx1
                  try clear c2
                  try clear p2
                  try clear c4
                  try clear p6
                  try clear c11
                  try clear c12
                  try clear c13
                  try clear xR
                  try clear PY
                  try clear c14
                  try clear oP
                  try clear uF
                  try clear c18
                  try clear c19
                  try clear Vh
                  try clear p19
                  try clear q19
                  try clear alo
                  try clear c21
                  try clear sQ
                  try clear EZ
                  try clear acn
                  try clear c23
                  try clear Eu
                  try clear nH
                  try clear nG
                  try clear nD
                  try clear ru
                  try clear qZ
                  try clear qY
                  try clear xk
                  try clear xh
                  try clear xg
                  try clear I8
                  try clear I7
                  try clear I5
                  try clear xe
                  try clear w_
                  try clear wZ
                  try clear I4
                  try clear IZ
                  try clear IY
                  try clear IW
                  try clear IV
                  try clear IU
                  try clear IQ
                  try clear IP
                  try clear IM
                  try clear IL
                  try clear IK
                  try clear IJ
                  try clear Xi
                  try clear Xh
                  try clear Xg
                  try clear Xf
                  try clear Xe
                  try clear Xd
                  try clear Xc
                  try clear Xb
                  try clear Xa
                  try clear vO
                  try clear vN
                  try clear yf
                  try clear Ee
                  try clear Ed
                  try clear Ec
                  try clear Eb
                  try clear Ea
                  try clear D_
                  try clear D9
                  try clear D8
                  try clear D7
                  try clear nC
                  try clear ni
                  try clear ng
                  try clear qX
                  try clear qW
                  try clear qV
                  try clear wY
                  try clear wX
                  try clear wW
                  try clear IB
                  try clear IA
                  try clear Iz
                  try clear wV
                  try clear wU
                  try clear wS
                  try clear Iy
                  try clear Iw
                  try clear Iu
                  try clear Ir
                  try clear Iq
                  try clear Ip
                  try clear Io
                  try clear Il
                  try clear Ik
                  try clear Ij
                  try clear Ii
                  try clear Ih
                  try clear WN
                  try clear WM
                  try clear WL
                  try clear WJ
                  try clear WI
                  try clear WH
                  try clear WG
                  try clear WE
                  try clear WC
                  try clear vJ
                  try clear vI
                  try clear yc
                  try clear D5
                  try clear DZ
                  try clear DY
                  try clear DW
                  try clear DU
                  try clear DT
                  try clear DR
                  try clear DN
                  try clear DL
                  try clear qU
                  try clear JK
                  try clear p2
                  try clear JI
                  obtain ⟨rH, rfl, HA, HK3, aU, HB⟩ := hrel
                  cases gk with
                  | zero => exact absurd HA.out (by simp [aJ.l1])
                  | succ k3 =>
                    have H := HA.out
                    clear HA
                    simp only [aJ.l1] at H
                    by_cases FC : rH < oL
                    · rw [if_pos FC] at H
                      have Be : decide (rH < oL) = true := decide_eq_true FC
                      clear FC
                      obtain ⟨sK, PI⟩ : ∃ j_ : Int, (wrap64 ((wrap64 (oL * aT)) + rH)) = j_ := ⟨_, rfl⟩
                      replace H : (if 0 ≤ (sK) then (if (sK) < (bT.length : Int) then (if 0 ≤ (wrap64 ((wrap64 (rH * aT)) + oL)) then (if (wrap64 ((wrap64 (rH * aT)) + oL)) < (bT.length : Int) then (if (rd bT (sK)) = (rd bT (wrap64 ((wrap64 (rH * aT)) + oL))) then (aJ.l1 k3 aT oL (wrap64 (rH + 1)) aT aZ aY b_ dw bT) else (some false)) else (none)) else (none)) else (none)) else (none)) = some r := by first | (rw [PI] at H; exact H) | (simp only [PI] at H ⊢; exact H)
                      have agX : (IntKind.i64.wrap ((wrap64 (oL * aT)) + rH)) = sK := (dA _).trans PI
                      by_cases c28 : 0 ≤ (sK)
                      · rw [if_pos c28] at H
                        have YA : decide (0 ≤ (sK)) = true := decide_eq_true c28
                        clear c28
                        by_cases c29 : (sK) < (bT.length : Int)
                        · rw [if_pos c29] at H
                          have acj : decide ((sK) < (bT.length : Int)) = true := decide_eq_true c29
                          clear c29
                          obtain ⟨qo, xM⟩ : ∃ j_ : Int, (wrap64 ((wrap64 (rH * aT)) + oL)) = j_ := ⟨_, rfl⟩
                          replace H : (if 0 ≤ (qo) then (if (qo) < (bT.length : Int) then (if (rd bT (sK)) = (rd bT (qo)) then (aJ.l1 k3 aT oL (wrap64 (rH + 1)) aT aZ aY b_ dw bT) else (some false)) else (none)) else (none)) = some r := by first | (rw [xM] at H; exact H) | (simp only [xM] at H ⊢; exact H)
                          have agV : (IntKind.i64.wrap ((wrap64 (rH * aT)) + oL)) = qo := (dA _).trans xM
                          by_cases c31 : 0 ≤ (qo)
                          · rw [if_pos c31] at H
                            have aci : decide (0 ≤ (qo)) = true := decide_eq_true c31
                            clear c31
                            by_cases c32 : (qo) < (bT.length : Int)
                            · rw [if_pos c32] at H
                              have ajG : decide ((qo) < (bT.length : Int)) = true := decide_eq_true c32
                              clear c32
                              by_cases SQ : (rd bT (sK)) = (rd bT (qo))
                              · rw [if_pos SQ] at H
                                have ach : ((rd bT (sK)) == (rd bT (qo))) = true := beq_iff_eq.mpr SQ
                                have acg : ((rd bT (sK)) != (rd bT (qo))) = false := bne_eq_false_iff_eq.mpr SQ
                                clear SQ
                                have H' := aj.mk H
                                clear H
                                have afe : wr.cell? ⟨bD, 0, none⟩ = some (.int .i64 aT) := (az aU.out 0).trans rfl
                                have afd : wr.cell? ⟨bD, 1, none⟩ = some (.int .i64 aZ) := (az aU.out 1).trans rfl
                                have afc : wr.cell? ⟨bD, 2, none⟩ = some (.slice bK aY.length bJ) := (az aU.out 2).trans rfl
                                have afb : wr.cell? ⟨bD, 3, none⟩ = some (.int .i64 b_) := (az aU.out 3).trans rfl
                                have afa : wr.cell? ⟨bD, 4, none⟩ = some (.int .i64 dw) := (az aU.out 4).trans rfl
                                have ae_ : wr.cell? ⟨bD, 5, none⟩ = some (.slice (some Bi) bT.length gu) := (az aU.out 5).trans rfl
                                have aeB := ay aU.out 0
                                have aeA := ay aU.out 1
                                have aez := ay aU.out 2
                                have aey := ay aU.out 3
                                have aex := ay aU.out 4
                                have aew := ay aU.out 5
                                have Na : 0 ≤ ((sK) : Int) := of_decide_eq_true (by first | (with_reducible assumption) | assumption)
                                have ML : (sK) < (bT.length : Int) := of_decide_eq_true (by first | (with_reducible assumption) | assumption)
                                obtain ⟨Vt, ZU, uh⟩ := Kd.iF uG.out (sK) Na ML
                                obtain rfl : Bi = Vt := (by injection ZU)
                                replace uh := (HB.out.cell (World.block_lt_of_cell? w _ uh)).trans uh
                                replace Na := eq_true Na
                                replace ML := eq_true ML
                                have M_ : 0 ≤ ((qo) : Int) := of_decide_eq_true (by first | (with_reducible assumption) | assumption)
                                have MK : (qo) < (bT.length : Int) := of_decide_eq_true (by first | (with_reducible assumption) | assumption)
                                obtain ⟨Vs, e197, ug⟩ := Kd.iF uG.out (qo) M_ MK
                                obtain rfl : Bi = Vs := (by injection e197)
                                replace ug := (HB.out.cell (World.block_lt_of_cell? w _ ug)).trans ug
                                replace M_ := eq_true M_
                                replace MK := eq_true MK
                                go_wp2
                                repeat (go_quiet (fail); try go_wp2)
                                go_roundg k3
                                case measure => have := HJ3.out; have := Jo.out; have := HK3.out; omega
                                case rel => exact ⟨(wrap64 (rH + 1)), (by first | rfl | (simp; done) | (simp [*]; done)), H', ⟨by have := HJ3.out; have := Jo.out; have := HK3.out; omega⟩, ⟨by (with_reducible repeat (first | refine aB ?_ _ | refine aF ?_ | refine aC ?_ _)); exact aU.out⟩, ⟨by repeat (first | (with_reducible first | exact HB.out | apply ak | apply ah | apply au | refine aA ?_ lN.out) | exact HB.out)⟩⟩
                              · rw [if_neg SQ] at H
                                have ach : ((rd bT (sK)) == (rd bT (qo))) = false := beq_eq_false_iff_ne.mpr SQ
                                have acg : ((rd bT (sK)) != (rd bT (qo))) = true := bne_iff_ne.mpr SQ
                                obtain rfl := Option.some.inj H
                                have ae9 : wr.cell? ⟨bD, 0, none⟩ = some (.int .i64 aT) := (az aU.out 0).trans rfl
                                have ae8 : wr.cell? ⟨bD, 1, none⟩ = some (.int .i64 aZ) := (az aU.out 1).trans rfl
                                have ae7 : wr.cell? ⟨bD, 2, none⟩ = some (.slice bK aY.length bJ) := (az aU.out 2).trans rfl
                                have ae6 : wr.cell? ⟨bD, 3, none⟩ = some (.int .i64 b_) := (az aU.out 3).trans rfl
                                have ae5 : wr.cell? ⟨bD, 4, none⟩ = some (.int .i64 dw) := (az aU.out 4).trans rfl
                                have ae4 : wr.cell? ⟨bD, 5, none⟩ = some (.slice (some Bi) bT.length gu) := (az aU.out 5).trans rfl
                                have aev := ay aU.out 0
                                have aeu := ay aU.out 1
                                have aet := ay aU.out 2
                                have aes := ay aU.out 3
                                have aer := ay aU.out 4
                                have aep := ay aU.out 5
                                have Na : 0 ≤ ((sK) : Int) := of_decide_eq_true (by first | (with_reducible assumption) | assumption)
                                have ML : (sK) < (bT.length : Int) := of_decide_eq_true (by first | (with_reducible assumption) | assumption)
                                obtain ⟨Vt, ZU, uh⟩ := Kd.iF uG.out (sK) Na ML
                                obtain rfl : Bi = Vt := (by injection ZU)
                                replace uh := (HB.out.cell (World.block_lt_of_cell? w _ uh)).trans uh
                                replace Na := eq_true Na
                                replace ML := eq_true ML
                                have M_ : 0 ≤ ((qo) : Int) := of_decide_eq_true (by first | (with_reducible assumption) | assumption)
                                have MK : (qo) < (bT.length : Int) := of_decide_eq_true (by first | (with_reducible assumption) | assumption)
                                obtain ⟨Vs, e197, ug⟩ := Kd.iF uG.out (qo) M_ MK
                                obtain rfl : Bi = Vs := (by injection e197)
                                replace ug := (HB.out.cell (World.block_lt_of_cell? w _ ug)).trans ug
                                replace M_ := eq_true M_
                                replace MK := eq_true MK
                                go_wp2
                                repeat (go_quiet (fail); try go_wp2)
                                go_ret
                                exact ⟨by first | rfl | (simp [aN, aK] <;> rfl) | (simp only [← J9, ← PI, ← xM]; first | rfl | (simp [aN, aK] <;> rfl)) | (simp [*, aN, aK] <;> rfl), by repeat (first | (with_reducible first | exact HB.out | apply ak | apply ah | apply au | refine aA ?_ lN.out) | exact HB.out)⟩
                            · rw [if_neg c32] at H
                              exact absurd H (by simp)
                          · rw [if_neg c31] at H
                            exact absurd H (by simp)
                        · rw [if_neg c29] at H
                          exact absurd H (by simp)
                      · rw [if_neg c28] at H
                        exact absurd H (by simp)
                    · rw [if_neg FC] at H
                      have Be : decide (rH < oL) = false := decide_eq_false FC
                      clear FC
                      have H' := aj.mk H
                      clear H
                      go_wp2
                      repeat (go_quiet (fail); try go_wp2)
                      go_roundg k3
                      case measure => have := HJ3.out; have := Jo.out; have := HK3.out; omega
                      case rel => exact ⟨(wrap64 (oL + 1)), (by first | rfl | (simp; done) | (simp [*]; done)), H', ⟨by have := HJ3.out; have := Jo.out; have := HK3.out; omega⟩, ⟨by (with_reducible repeat (first | refine aB ?_ _ | refine aF ?_ | refine aC ?_ _)); exact aU.out⟩, ⟨by repeat (first | (with_reducible first | exact HB.out | apply ak | apply ah | apply au | refine aA ?_ lN.out) | exact HB.out)⟩⟩
             · rw [if_neg EZ] at H
               exact absurd H (by simp)
           · rw [if_neg c21] at H
             exact absurd H (by simp)
         · rw [if_neg c19] at H
           have Vh : decide (oL < aT) = false := decide_eq_false c19
           clear c19
           obtain rfl := Option.some.inj H
           go_wp2
           repeat (go_quiet (fail); try go_wp2)
           go_ret
           exact ⟨by first | rfl | (simp [aN, aK] <;> rfl) | (simp [*, aN, aK] <;> rfl), by repeat (first | (with_reducible first | exact HB.out | apply ak | apply ah | apply au | refine aA ?_ lN.out) | exact HB.out)⟩
end Go.Proofs.Ytnijhjbcjeohhaa.PQ

