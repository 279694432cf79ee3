import Derived.Test.YtcfobekkchhbbaaGreatY2
import Derived.Test.YtcfobekkchhbbaaGreatY3
/- Joined and thinned by a program of this session's own (wip/pack2.py) out of its texts (wip/ of its repo); parts were laid by its own program (wip/print-patch.py over the kit's print) out of the translation; Lean checks all. -/
set_option maxRecDepth 100000
set_option maxHeartbeats 8000000
namespace Go.Proofs.YtcfobekkchhbbaaGreat.PQ
open Go.RowKit Go.Proofs.af.aQ Go.Proofs.af.a_ Go.Proofs.af.bg
attribute [local go_sem] iJ iH jI jH gV gU iI iG
set_option linter.unusedVariables false
set_option linter.unusedSimpArgs false
attribute [local go_sem high] QM
def iD.f (k : Nat) (aZ : Int) (bn : Int) (bf : List Int) (bP : Int) (bQ : Int) (bG : List Int) : Option (Bool) := (nY.f aZ bn bf).bind fun Jm => ((nY.f bP bQ bG).bind fun zD => (if (Jm.1 == zD.1 && (Jm.2 == zD.2)) = true then ((eH.f k bf bG).bind fun t164 => (some t164)) else (some false)))
def iD.T1 : Bool × List (List Nat × List Nat) := (true, [([], []), ([0], [0]), ([], []), ([2, 1], [2]), ([1, 3], [1, 3]), ([4, 3], [4]), ([5], [5]), ([6, 5], [5, 6]), ([5], [5]), ([8, 5], [5, 8]), ([7, 9, 5, 5], [5, 7, 9]), ([5, 10], [5, 10]), ([11, 10, 0, 1, 2, 3, 4, 5, 6, 7, 8, 9, 10, 11], [11])])
def iD.B1 : List Nat := [0, 1, 0, 7, 15, 31, 63, 127, 63, 319, 1023, 2047, 4095]
theorem iD.SL : o9 .any (opsOf Tryz.f81 1) = iD.T1 := by kernel_rfl
theorem iD.MQ : qV iD.T1.2 iD.B1 = true := by kernel_rfl
theorem iD.calls (k : Nat) (aZ : Int) (bn : Int) (bU : Option Addr) (bT : Nat) (bf : List Int) (bP : Int) (bQ : Int) (eY : Option Addr) (fA : Nat) (bG : List Int) (r : Bool) (w : World) (iV : Kd.C (Kd.int .i64) w bU bf.length bf) (jy : bf.length ≤ bT) (mG : Kd.C (Kd.int .i64) w eY bG.length bG) (nC : bG.length ≤ fA) (h : iD.f k aZ bn bf bP bQ bG = some r) :
 Calls Tryz.prog 81 #[.agg #[.int .i64 aZ, .int .i64 bn, .slice bU bf.length bT], .agg #[.int .i64 bP, .int .i64 bQ, .slice eY bG.length fA]] w fun e w' => e = .returned (.bool r) ∧ Below w.heap.size w w' := by
 have DK := Tryz.underlying29
 have lY := aj.mk iV
 have oq := aj.mk jy
 clear iV jy
 have qQ := aj.mk mG
 have uJ := aj.mk nC
 clear mG nC
 have HB := aj.mk (Below.refl w.heap.size w)
 have H : ((nY.f aZ bn bf).bind fun Jm => ((nY.f bP bQ bG).bind fun zD => (if (Jm.1 == zD.1 && (Jm.2 == zD.2)) = true then ((eH.f k bf bG).bind fun t164 => (some t164)) else (some false)))) = some r := h
 clear h
 replace H := Option.bind_eq_some_iff.mp H
 obtain ⟨⟨t160, t161⟩, zN, H⟩ := H
 replace H : ((nY.f bP bQ bG).bind fun zD => (if (t160 == zD.1 && (t161 == zD.2)) = true then ((eH.f k bf bG).bind fun t164 => (some t164)) else (some false))) = some r := H
 have A3 := aj.mk zN
 clear zN
 replace H := Option.bind_eq_some_iff.mp H
 obtain ⟨⟨t162, t163⟩, JA, H⟩ := H
 replace H : (if (t160 == t162 && (t161 == t163)) = true then ((eH.f k bf bG).bind fun t164 => (some t164)) else (some false)) = some r := H
 have A4 := aj.mk JA
 clear JA
 by_cases c5 : (t160 == t162 && (t161 == t163)) = true
 · rw [if_pos c5] at H
   have zU : (t160 == t162 && (t161 == t163)) = true := c5
   (try (have afC : decide (t160 = t162 && (t161 == t163)) = true := by simpa using c5))
   (try (have afB : (t160 == t162 && (t161 == t163)) = true := by simpa using c5))
   clear c5
   replace H := Option.bind_eq_some_iff.mp H
   obtain ⟨t164, Wv, H⟩ := H
   replace H : (some t164) = some r := H
   have A6 := aj.mk Wv
   clear Wv
   obtain rfl := Option.some.inj H
   go_enter Tryz.func81, Tryz.ntmps81
   try go_wp2_with (first | ((with_reducible refine dI (N := 2) rfl ?_); refine cZ ?hg (N := 2) ?hd (cs := #[.int .i64 aZ, .int .i64 bn, .slice bU bf.length bT]) (t := 29) ?hr ?_; (case hd => rfl); (case hg => rfl); (case hr => first | (go_simp; done) | (go_simp; rfl)); intro jK hg w7 hbox hb; have bK := aj.mk (aV (by repeat (first | (with_reducible first | exact HB.out | apply ak | apply ah | apply au) | exact HB.out)) hb); have dW := aj.mk (hbox); have eG := aj.mk ((by rw [hg]; exact (bz (by repeat (first | (with_reducible first | exact HB.out | apply ak | apply ah | apply au) | exact HB.out))) : w.heap.size ≤ jK)); have fP := aj.mk ((by rw [hg]; exact (bz (by repeat (first | (with_reducible first | exact HB.out | apply ak | apply ah | apply au) | exact HB.out))) : w.heap.size ≤ jK)); clear HB; have HB := bK; have eF := dW; have abx := eG; have qR := fP; clear bK dW eG fP; clear hb hbox hg) | ((with_reducible refine dI (N := 3) rfl ?_); refine cZ ?hg (N := 3) ?hd (cs := #[.int .i64 bP, .int .i64 bQ, .slice eY bG.length fA]) (t := 29) ?hr ?_; (case hd => rfl); (case hg => rfl); (case hr => first | (go_simp; done) | (go_simp; rfl)); intro mX hg w8 hbox hb; have bK := aj.mk (bI (g := jK) (o := .cells #[.int .i64 aZ, .int .i64 bn, .slice bU bf.length bT] 29 (0, 0)) (by (with_reducible repeat (first | refine aC ?_ _ | refine aH ?_ | refine aG ?_ _)); exact eF.out) hb); have dW := aj.mk (aV (by repeat (first | (with_reducible first | exact HB.out | apply ak | apply ah | apply au | refine aA ?_ qR.out) | exact HB.out)) hb); have eG := aj.mk (hbox); have fP := aj.mk ((by rw [hg]; exact (bz (by repeat (first | (with_reducible first | exact HB.out | apply ak | apply ah | apply au | refine aA ?_ qR.out) | exact HB.out))) : w.heap.size ≤ mX)); have jR := aj.mk ((by rw [hg]; exact (bz (by repeat (first | (with_reducible first | exact HB.out | apply ak | apply ah | apply au | refine aA ?_ qR.out) | exact HB.out))) : w.heap.size ≤ mX)); have jV := aj.mk ((by rw [hg]; exact Nat.ne_of_lt (eu (g := jK) (o := .cells #[.int .i64 aZ, .int .i64 bn, .slice bU bf.length bT] 29 (0, 0)) (by (with_reducible repeat (first | refine aC ?_ _ | refine aH ?_ | refine aG ?_ _)); exact eF.out)) : jK ≠ mX)); have kQ := aj.mk ((by rw [hg]; exact Nat.ne_of_gt (eu (g := jK) (o := .cells #[.int .i64 aZ, .int .i64 bn, .slice bU bf.length bT] 29 (0, 0)) (by (with_reducible repeat (first | refine aC ?_ _ | refine aH ?_ | refine aG ?_ _)); exact eF.out)) : mX ≠ jK)); clear eF; clear HB; have eF := bK; have HB := dW; have fO := eG; have abw := fP; have Dj := jR; have Pm := jV; have Pj := kQ; clear bK dW eG fP jR jV kQ; clear hb hbox hg))
   have bK := aj.mk (aH eF.out)
   have dW := aj.mk (aH fO.out)
   have eG := aj.mk (au HB.out)
   clear eF
   clear fO
   clear HB
   have eF := bK
   have fO := dW
   have HB := eG
   clear bK dW eG
   refine Ff (n := 13) (S := fun w' => w'.cell? ⟨jK, 0, none⟩ = some (.int .i64 aZ) ∧ w'.cell? ⟨jK, 1, none⟩ = some (.int .i64 bn) ∧ w'.cell? ⟨jK, 2, none⟩ = some (.slice bU bf.length bT) ∧ w'.cell? ⟨mX, 0, none⟩ = some (.int .i64 bP) ∧ w'.cell? ⟨mX, 1, none⟩ = some (.int .i64 bQ) ∧ w'.cell? ⟨mX, 2, none⟩ = some (.slice eY bG.length fA)) (ds := []) #[false, false, false, false, false, false, false, false, false, false, false, false, false] (by kernel_rfl) rfl rfl ⟨(az eF.out 0).trans rfl, (az eF.out 1).trans rfl, (az eF.out 2).trans rfl, (az fO.out 0).trans rfl, (az fO.out 1).trans rfl, (az fO.out 2).trans rfl⟩ (fun hHeld => ?_); refine uU iD.SL iD.MQ (fun kK Ju => ?_)
   generalize w8.drew = w9 at eF fO HB hHeld ⊢
   refine pY (i := 0) (N := some 5) (v := ?_) (a' := ?_) #[true, false, false, false, false, false, false, false, false, false, false, false, false] rfl rfl (iR kK.out Ju.out (by kernel_rfl)) (fun _ _ _ h => h) (Or.inl ⟨by rfl, ?_⟩) hHeld ?_ ?_
   rotate_left
   · rintro w' ⟨s0, s1, s2, s3, s4, s5⟩
     go_simp
     with_reducible rfl
   rotate_left
   · simp only [Act.put, List.setIfInBounds_toArray, List.set_cons_zero, List.set_cons_succ, dB, dD]
     rfl
   refine pY (i := 2) (N := some 7) (v := ?_) (a' := ?_) #[true, false, true, false, false, false, false, false, false, false, false, false, false] rfl rfl (iR kK.out Ju.out (by kernel_rfl)) (fun _ _ _ h => h) (Or.inl ⟨by rfl, ?_⟩) hHeld ?_ ?_
   rotate_left
   · rintro w' ⟨s0, s1, s2, s3, s4, s5⟩
     go_simp
     with_reducible rfl
   rotate_left
   · simp only [Act.put, List.setIfInBounds_toArray, List.set_cons_zero, List.set_cons_succ, dB, dD]
     rfl
   refine Bj (i := 1) (N := some 6) #[true, true, true, false, false, false, false, false, false, false, false, false, false] rfl rfl (nX kK.out (by kernel_rfl)) (by decide) (fun K hK => ?_)
   refine wH Tryz.func131 (by kernel_rfl) rfl #[.agg #[.int .i64 aZ, .int .i64 bn, .slice bU bf.length bT]] (by rfl) rfl rfl (by (try simp only [List.map_toArray, List.map_cons, List.map_nil]); first | done | rfl | (simp only [List.length_drop, List.length_take]; rfl)) ?_
   with_reducible refine (nY.calls aZ bn _ _ bf t160 t161 _ ?gm ?f_ A3.out).mono ?_
   (case gm => repeat (first | exact (Kd.fQ lY.out HB.out) | (with_reducible refine Kd.gZ ?_ _) | (with_reducible refine Kd.gY ?_ _) | (with_reducible refine Kd.jh ?_)))
   (case f_ => exact oq.out)
   rintro e w10 ⟨rfl, hb⟩
   refine ⟨_, rfl, ?_⟩
   have bK := aj.mk (bI (g := jK) (o := .cells #[.int .i64 aZ, .int .i64 bn, .slice bU bf.length bT] 29 (0, 0)) (by (with_reducible repeat (first | refine aC ?_ _ | refine aH ?_ | refine aG ?_ _)); exact eF.out) hb)
   have dW := aj.mk (bI (g := mX) (o := .cells #[.int .i64 bP, .int .i64 bQ, .slice eY bG.length fA] 29 (0, 0)) (by (with_reducible repeat (first | refine aC ?_ _ | refine aH ?_ | refine aG ?_ _)); exact fO.out) hb)
   have eG := aj.mk (aV (by repeat (first | (with_reducible first | exact HB.out | apply ak | apply ah | apply au | refine aA ?_ qR.out | refine aA ?_ Dj.out) | exact HB.out)) hb)
   clear eF
   clear fO
   clear HB
   have eF := bK
   have fO := dW
   have HB := eG
   clear bK dW eG
   (try clear hb)
   (try clear hb2)
   (try clear hk)
   (try clear hi)
   refine hK.out _ _ ⟨(az eF.out 0).trans rfl, (az eF.out 1).trans rfl, (az eF.out 2).trans rfl, (az fO.out 0).trans rfl, (az fO.out 1).trans rfl, (az fO.out 2).trans rfl⟩ (fun hHeld => ?_)
   clear hK K
   refine wB (a' := ?_) ?_ ?_
   rotate_left
   · show Act.put _ (some 6) _ = _
     simp only [Act.put, List.setIfInBounds_toArray, List.set_cons_zero, List.set_cons_succ, dB, dD]
     rfl
   refine Bj (i := 3) (N := some 8) #[true, true, true, true, false, false, false, false, false, false, false, false, false] rfl rfl (nX kK.out (by kernel_rfl)) (by decide) (fun K hK => ?_)
   refine wH Tryz.func131 (by kernel_rfl) rfl #[.agg #[.int .i64 bP, .int .i64 bQ, .slice eY bG.length fA]] (by rfl) rfl rfl (by (try simp only [List.map_toArray, List.map_cons, List.map_nil]); first | done | rfl | (simp only [List.length_drop, List.length_take]; rfl)) ?_
   with_reducible refine (nY.calls bP bQ _ _ bG t162 t163 _ ?gm ?f_ A4.out).mono ?_
   (case gm => repeat (first | exact (Kd.fQ qQ.out HB.out) | (with_reducible refine Kd.gZ ?_ _) | (with_reducible refine Kd.gY ?_ _) | (with_reducible refine Kd.jh ?_)))
   (case f_ => exact uJ.out)
   rintro e zQ ⟨rfl, hb⟩
   refine ⟨_, rfl, ?_⟩
   have bK := aj.mk (bI (g := jK) (o := .cells #[.int .i64 aZ, .int .i64 bn, .slice bU bf.length bT] 29 (0, 0)) (by (with_reducible repeat (first | refine aC ?_ _ | refine aH ?_ | refine aG ?_ _)); exact eF.out) hb)
   have dW := aj.mk (bI (g := mX) (o := .cells #[.int .i64 bP, .int .i64 bQ, .slice eY bG.length fA] 29 (0, 0)) (by (with_reducible repeat (first | refine aC ?_ _ | refine aH ?_ | refine aG ?_ _)); exact fO.out) hb)
   have eG := aj.mk (aV (by repeat (first | (with_reducible first | exact HB.out | apply ak | apply ah | apply au | refine aA ?_ qR.out | refine aA ?_ Dj.out) | exact HB.out)) hb)
   clear eF
   clear fO
   clear HB
   have eF := bK
   have fO := dW
   have HB := eG
   clear bK dW eG
   (try clear hb)
   (try clear hb2)
   (try clear hk)
   (try clear hi)
   refine hK.out _ _ ⟨(az eF.out 0).trans rfl, (az eF.out 1).trans rfl, (az eF.out 2).trans rfl, (az fO.out 0).trans rfl, (az fO.out 1).trans rfl, (az fO.out 2).trans rfl⟩ (fun hHeld => ?_)
   clear hK K
   refine wB (a' := ?_) ?_ ?_
   rotate_left
   · show Act.put _ (some 8) _ = _
     simp only [Act.put, List.setIfInBounds_toArray, List.set_cons_zero, List.set_cons_succ, dB, dD]
     rfl
   refine gz (i := 4) (N := some 9) (v := ?_) (a' := ?_) #[true, true, true, true, true, false, false, false, false, false, false, false, false] rfl rfl (dZ kK.out (by kernel_rfl)) (fun _ _ _ h => h) (Or.inl ⟨by rfl, ?_⟩) ?_ ?_
   rotate_left
   · intro w'
     go_simp
     with_reducible rfl
   rotate_left
   · simp only [Act.put, List.setIfInBounds_toArray, List.set_cons_zero, List.set_cons_succ, dB, dD]
     rfl
   refine gz (i := 5) (N := some 10) (v := ?_) (a' := ?_) #[true, true, true, true, true, true, false, false, false, false, false, false, false] rfl rfl (dZ kK.out (by kernel_rfl)) (fun _ _ _ h => h) (Or.inl ⟨by rfl, ?_⟩) ?_ ?_
   rotate_left
   · intro w'
     go_simp
     with_reducible rfl
   rotate_left
   · simp only [Act.put, List.setIfInBounds_toArray, List.set_cons_zero, List.set_cons_succ, dB, dD]
     rfl
   refine gz (i := 6) (N := some 11) (v := ?_) (a' := ?_) #[true, true, true, true, true, true, true, false, false, false, false, false, false] rfl rfl (dZ kK.out (by kernel_rfl)) (fun _ _ _ h => h) (Or.inl ⟨by rfl, ?_⟩) ?_ ?_
   rotate_left
   · intro w'
     go_simp
     with_reducible rfl
   rotate_left
   · simp only [Act.put, List.setIfInBounds_toArray, List.set_cons_zero, List.set_cons_succ, dB, dD]
     rfl
   refine gz (i := 8) (N := some 13) (v := ?_) (a' := ?_) #[true, true, true, true, true, true, true, false, true, false, false, false, false] rfl rfl (dZ kK.out (by kernel_rfl)) (fun _ _ _ h => h) (Or.inl ⟨by rfl, ?_⟩) ?_ ?_
   rotate_left
   · intro w'
     go_simp
     with_reducible rfl
   rotate_left
   · simp only [Act.put, List.setIfInBounds_toArray, List.set_cons_zero, List.set_cons_succ, dB, dD]
     rfl
   refine pY (i := 7) (N := some 12) (v := ?_) (a' := ?_) #[true, true, true, true, true, true, true, true, true, false, false, false, false] rfl rfl (iR kK.out Ju.out (by kernel_rfl)) (fun _ _ _ h => h) (Or.inl ⟨by rfl, ?_⟩) hHeld ?_ ?_
   rotate_left
   · rintro w' ⟨s0, s1, s2, s3, s4, s5⟩
     go_simp
     with_reducible rfl
   rotate_left
   · simp only [Act.put, List.setIfInBounds_toArray, List.set_cons_zero, List.set_cons_succ, dB, dD]
     rfl
   refine pY (i := 9) (N := some 14) (v := ?_) (a' := ?_) #[true, true, true, true, true, true, true, true, true, true, false, false, false] rfl rfl (iR kK.out Ju.out (by kernel_rfl)) (fun _ _ _ h => h) (Or.inl ⟨by rfl, ?_⟩) hHeld ?_ ?_
   rotate_left
   · rintro w' ⟨s0, s1, s2, s3, s4, s5⟩
     go_simp
     with_reducible rfl
   rotate_left
   · simp only [Act.put, List.setIfInBounds_toArray, List.set_cons_zero, List.set_cons_succ, dB, dD]
     rfl
   refine Bj (i := 10) (N := some 15) #[true, true, true, true, true, true, true, true, true, true, true, false, false] rfl rfl (nX kK.out (by kernel_rfl)) (by decide) (fun K hK => ?_)
   refine wH Tryz.func132 (by kernel_rfl) rfl #[.slice bU bf.length bT, .slice eY bG.length fA] (by rfl) rfl rfl (by (try simp only [List.map_toArray, List.map_cons, List.map_nil]); first | done | rfl | (simp only [List.length_drop, List.length_take]; rfl)) ?_
   with_reducible refine (eH.calls k _ _ bf _ _ bG t164 _ ?gm ?f_ ?oW ?sU A6.out).mono ?_
   (case gm => repeat (first | exact (Kd.fQ lY.out HB.out) | (with_reducible refine Kd.gZ ?_ _) | (with_reducible refine Kd.gY ?_ _) | (with_reducible refine Kd.jh ?_)))
   (case f_ => exact oq.out)
   (case oW => repeat (first | exact (Kd.fQ qQ.out HB.out) | (with_reducible refine Kd.gZ ?_ _) | (with_reducible refine Kd.gY ?_ _) | (with_reducible refine Kd.jh ?_)))
   (case sU => exact uJ.out)
   rintro e w' ⟨rfl, ⟨nd, rfl⟩⟩
   refine ⟨_, rfl, ?_⟩
   refine hK.out _ _ ⟨(az eF.out 0).trans rfl, (az eF.out 1).trans rfl, (az eF.out 2).trans rfl, (az fO.out 0).trans rfl, (az fO.out 1).trans rfl, (az fO.out 2).trans rfl⟩ (fun hHeld => ?_)
   clear hK K
   refine wB (a' := ?_) ?_ ?_
   rotate_left
   · show Act.put _ (some 15) _ = _
     simp only [Act.put, List.setIfInBounds_toArray, List.set_cons_zero, List.set_cons_succ, dB, dD]
     rfl
   refine gz (i := 11) (N := some 16) (v := ?_) (a' := ?_) #[true, true, true, true, true, true, true, true, true, true, true, true, false] rfl rfl (dZ kK.out (by kernel_rfl)) (fun _ _ _ h => h) (Or.inl ⟨by rfl, ?_⟩) ?_ ?_
   rotate_left
   · intro w'
     go_simp
     with_reducible rfl
   rotate_left
   · simp only [Act.put, List.setIfInBounds_toArray, List.set_cons_zero, List.set_cons_succ, dB, dD]
     rfl
   refine gz (i := 12) (N := some 4) (v := ?_) (a' := ?_) #[true, true, true, true, true, true, true, true, true, true, true, true, true] rfl rfl (dZ kK.out (by kernel_rfl)) (fun _ _ _ h => h) (Or.inl ⟨by rfl, ?_⟩) ?_ ?_
   rotate_left
   · intro w'
     go_simp
     with_reducible rfl
   rotate_left
   · simp only [Act.put, List.setIfInBounds_toArray, List.set_cons_zero, List.set_cons_succ, dB, dD]
     rfl
   refine MK (AA kK.out (by kernel_rfl)) ?_
   try go_wp2
   go_ret
   exact ⟨by first | rfl | (simp [aU, aT] <;> rfl) | (simp [*, aU, aT] <;> rfl), by repeat (first | (with_reducible first | exact HB.out | apply ak | apply ah | apply au | refine aA ?_ qR.out | refine aA ?_ Dj.out) | exact HB.out)⟩
 · rw [if_neg c5] at H
   have zU : (t160 == t162 && (t161 == t163)) = false := by simpa using c5
   (try (have afC : decide (t160 = t162 && (t161 == t163)) = false := by simpa using c5))
   (try (have afB : (t160 == t162 && (t161 == t163)) = false := by simpa using c5))
   (try (have aj0 : ¬ (t160 = t162 && (t161 == t163)) := by simpa using c5))
   clear c5
   obtain rfl := Option.some.inj H
   go_enter Tryz.func81, Tryz.ntmps81
   try go_wp2_with (first | ((with_reducible refine dI (N := 2) rfl ?_); refine cZ ?hg (N := 2) ?hd (cs := #[.int .i64 aZ, .int .i64 bn, .slice bU bf.length bT]) (t := 29) ?hr ?_; (case hd => rfl); (case hg => rfl); (case hr => first | (go_simp; done) | (go_simp; rfl)); intro jK hg w12 hbox hb; have bK := aj.mk (aV (by repeat (first | (with_reducible first | exact HB.out | apply ak | apply ah | apply au) | exact HB.out)) hb); have dW := aj.mk (hbox); have eG := aj.mk ((by rw [hg]; exact (bz (by repeat (first | (with_reducible first | exact HB.out | apply ak | apply ah | apply au) | exact HB.out))) : w.heap.size ≤ jK)); have fP := aj.mk ((by rw [hg]; exact (bz (by repeat (first | (with_reducible first | exact HB.out | apply ak | apply ah | apply au) | exact HB.out))) : w.heap.size ≤ jK)); clear HB; have HB := bK; have eF := dW; have abx := eG; have qR := fP; clear bK dW eG fP; clear hb hbox hg) | ((with_reducible refine dI (N := 3) rfl ?_); refine cZ ?hg (N := 3) ?hd (cs := #[.int .i64 bP, .int .i64 bQ, .slice eY bG.length fA]) (t := 29) ?hr ?_; (case hd => rfl); (case hg => rfl); (case hr => first | (go_simp; done) | (go_simp; rfl)); intro mX hg PL hbox hb; have bK := aj.mk (bI (g := jK) (o := .cells #[.int .i64 aZ, .int .i64 bn, .slice bU bf.length bT] 29 (0, 0)) (by (with_reducible repeat (first | refine aC ?_ _ | refine aH ?_ | refine aG ?_ _)); exact eF.out) hb); have dW := aj.mk (aV (by repeat (first | (with_reducible first | exact HB.out | apply ak | apply ah | apply au | refine aA ?_ qR.out) | exact HB.out)) hb); have eG := aj.mk (hbox); have fP := aj.mk ((by rw [hg]; exact (bz (by repeat (first | (with_reducible first | exact HB.out | apply ak | apply ah | apply au | refine aA ?_ qR.out) | exact HB.out))) : w.heap.size ≤ mX)); have jR := aj.mk ((by rw [hg]; exact (bz (by repeat (first | (with_reducible first | exact HB.out | apply ak | apply ah | apply au | refine aA ?_ qR.out) | exact HB.out))) : w.heap.size ≤ mX)); have jV := aj.mk ((by rw [hg]; exact Nat.ne_of_lt (eu (g := jK) (o := .cells #[.int .i64 aZ, .int .i64 bn, .slice bU bf.length bT] 29 (0, 0)) (by (with_reducible repeat (first | refine aC ?_ _ | refine aH ?_ | refine aG ?_ _)); exact eF.out)) : jK ≠ mX)); have kQ := aj.mk ((by rw [hg]; exact Nat.ne_of_gt (eu (g := jK) (o := .cells #[.int .i64 aZ, .int .i64 bn, .slice bU bf.length bT] 29 (0, 0)) (by (with_reducible repeat (first | refine aC ?_ _ | refine aH ?_ | refine aG ?_ _)); exact eF.out)) : mX ≠ jK)); clear eF; clear HB; have eF := bK; have HB := dW; have fO := eG; have abw := fP; have Dj := jR; have Pm := jV; have Pj := kQ; clear bK dW eG fP jR jV kQ; clear hb hbox hg))
   have bK := aj.mk (aH eF.out)
   have dW := aj.mk (aH fO.out)
   have eG := aj.mk (au HB.out)
   clear eF
   clear fO
   clear HB
   have eF := bK
   have fO := dW
   have HB := eG
   clear bK dW eG
   refine Ff (n := 13) (S := fun w' => w'.cell? ⟨jK, 0, none⟩ = some (.int .i64 aZ) ∧ w'.cell? ⟨jK, 1, none⟩ = some (.int .i64 bn) ∧ w'.cell? ⟨jK, 2, none⟩ = some (.slice bU bf.length bT) ∧ w'.cell? ⟨mX, 0, none⟩ = some (.int .i64 bP) ∧ w'.cell? ⟨mX, 1, none⟩ = some (.int .i64 bQ) ∧ w'.cell? ⟨mX, 2, none⟩ = some (.slice eY bG.length fA)) (ds := []) #[false, false, false, false, false, false, false, false, false, false, false, false, false] (by kernel_rfl) rfl rfl ⟨(az eF.out 0).trans rfl, (az eF.out 1).trans rfl, (az eF.out 2).trans rfl, (az fO.out 0).trans rfl, (az fO.out 1).trans rfl, (az fO.out 2).trans rfl⟩ (fun hHeld => ?_); refine uU iD.SL iD.MQ (fun kK Ju => ?_)
   generalize PL.drew = Yz at eF fO HB hHeld ⊢
   refine pY (i := 0) (N := some 5) (v := ?_) (a' := ?_) #[true, false, false, false, false, false, false, false, false, false, false, false, false] rfl rfl (iR kK.out Ju.out (by kernel_rfl)) (fun _ _ _ h => h) (Or.inl ⟨by rfl, ?_⟩) hHeld ?_ ?_
   rotate_left
   · rintro w' ⟨s0, s1, s2, s3, s4, s5⟩
     go_simp
     with_reducible rfl
   rotate_left
   · simp only [Act.put, List.setIfInBounds_toArray, List.set_cons_zero, List.set_cons_succ, dB, dD]
     rfl
   refine pY (i := 2) (N := some 7) (v := ?_) (a' := ?_) #[true, false, true, false, false, false, false, false, false, false, false, false, false] rfl rfl (iR kK.out Ju.out (by kernel_rfl)) (fun _ _ _ h => h) (Or.inl ⟨by rfl, ?_⟩) hHeld ?_ ?_
   rotate_left
   · rintro w' ⟨s0, s1, s2, s3, s4, s5⟩
     go_simp
     with_reducible rfl
   rotate_left
   · simp only [Act.put, List.setIfInBounds_toArray, List.set_cons_zero, List.set_cons_succ, dB, dD]
     rfl
   refine Bj (i := 1) (N := some 6) #[true, true, true, false, false, false, false, false, false, false, false, false, false] rfl rfl (nX kK.out (by kernel_rfl)) (by decide) (fun K hK => ?_)
   refine wH Tryz.func131 (by kernel_rfl) rfl #[.agg #[.int .i64 aZ, .int .i64 bn, .slice bU bf.length bT]] (by rfl) rfl rfl (by (try simp only [List.map_toArray, List.map_cons, List.map_nil]); first | done | rfl | (simp only [List.length_drop, List.length_take]; rfl)) ?_
   with_reducible refine (nY.calls aZ bn _ _ bf t160 t161 _ ?gm ?f_ A3.out).mono ?_
   (case gm => repeat (first | exact (Kd.fQ lY.out HB.out) | (with_reducible refine Kd.gZ ?_ _) | (with_reducible refine Kd.gY ?_ _) | (with_reducible refine Kd.jh ?_)))
   (case f_ => exact oq.out)
   rintro e w15 ⟨rfl, hb⟩
   refine ⟨_, rfl, ?_⟩
   have bK := aj.mk (bI (g := jK) (o := .cells #[.int .i64 aZ, .int .i64 bn, .slice bU bf.length bT] 29 (0, 0)) (by (with_reducible repeat (first | refine aC ?_ _ | refine aH ?_ | refine aG ?_ _)); exact eF.out) hb)
   have dW := aj.mk (bI (g := mX) (o := .cells #[.int .i64 bP, .int .i64 bQ, .slice eY bG.length fA] 29 (0, 0)) (by (with_reducible repeat (first | refine aC ?_ _ | refine aH ?_ | refine aG ?_ _)); exact fO.out) hb)
   have eG := aj.mk (aV (by repeat (first | (with_reducible first | exact HB.out | apply ak | apply ah | apply au | refine aA ?_ qR.out | refine aA ?_ Dj.out) | exact HB.out)) hb)
   clear eF
   clear fO
   clear HB
   have eF := bK
   have fO := dW
   have HB := eG
   clear bK dW eG
   (try clear hb)
   (try clear hb2)
   (try clear hk)
   (try clear hi)
   refine hK.out _ _ ⟨(az eF.out 0).trans rfl, (az eF.out 1).trans rfl, (az eF.out 2).trans rfl, (az fO.out 0).trans rfl, (az fO.out 1).trans rfl, (az fO.out 2).trans rfl⟩ (fun hHeld => ?_)
   clear hK K
   refine wB (a' := ?_) ?_ ?_
   rotate_left
   · show Act.put _ (some 6) _ = _
     simp only [Act.put, List.setIfInBounds_toArray, List.set_cons_zero, List.set_cons_succ, dB, dD]
     rfl
   refine Bj (i := 3) (N := some 8) #[true, true, true, true, false, false, false, false, false, false, false, false, false] rfl rfl (nX kK.out (by kernel_rfl)) (by decide) (fun K hK => ?_)
   refine wH Tryz.func131 (by kernel_rfl) rfl #[.agg #[.int .i64 bP, .int .i64 bQ, .slice eY bG.length fA]] (by rfl) rfl rfl (by (try simp only [List.map_toArray, List.map_cons, List.map_nil]); first | done | rfl | (simp only [List.length_drop, List.length_take]; rfl)) ?_
   with_reducible refine (nY.calls bP bQ _ _ bG t162 t163 _ ?gm ?f_ A4.out).mono ?_
   (case gm => repeat (first | exact (Kd.fQ qQ.out HB.out) | (with_reducible refine Kd.gZ ?_ _) | (with_reducible refine Kd.gY ?_ _) | (with_reducible refine Kd.jh ?_)))
   (case f_ => exact uJ.out)
   rintro e w16 ⟨rfl, hb⟩
   refine ⟨_, rfl, ?_⟩
   have bK := aj.mk (bI (g := jK) (o := .cells #[.int .i64 aZ, .int .i64 bn, .slice bU bf.length bT] 29 (0, 0)) (by (with_reducible repeat (first | refine aC ?_ _ | refine aH ?_ | refine aG ?_ _)); exact eF.out) hb)
   have dW := aj.mk (bI (g := mX) (o := .cells #[.int .i64 bP, .int .i64 bQ, .slice eY bG.length fA] 29 (0, 0)) (by (with_reducible repeat (first | refine aC ?_ _ | refine aH ?_ | refine aG ?_ _)); exact fO.out) hb)
   have eG := aj.mk (aV (by repeat (first | (with_reducible first | exact HB.out | apply ak | apply ah | apply au | refine aA ?_ qR.out | refine aA ?_ Dj.out) | exact HB.out)) hb)
   clear eF
   clear fO
   clear HB
   have eF := bK
   have fO := dW
   have HB := eG
   clear bK dW eG
   (try clear hb)
   (try clear hb2)
   (try clear hk)
   (try clear hi)
   refine hK.out _ _ ⟨(az eF.out 0).trans rfl, (az eF.out 1).trans rfl, (az eF.out 2).trans rfl, (az fO.out 0).trans rfl, (az fO.out 1).trans rfl, (az fO.out 2).trans rfl⟩ (fun hHeld => ?_)
   clear hK K
   refine wB (a' := ?_) ?_ ?_
   rotate_left
   · show Act.put _ (some 8) _ = _
     simp only [Act.put, List.setIfInBounds_toArray, List.set_cons_zero, List.set_cons_succ, dB, dD]
     rfl
   refine gz (i := 4) (N := some 9) (v := ?_) (a' := ?_) #[true, true, true, true, true, false, false, false, false, false, false, false, false] rfl rfl (dZ kK.out (by kernel_rfl)) (fun _ _ _ h => h) (Or.inl ⟨by rfl, ?_⟩) ?_ ?_
   rotate_left
   · intro w'
     go_simp
     with_reducible rfl
   rotate_left
   · simp only [Act.put, List.setIfInBounds_toArray, List.set_cons_zero, List.set_cons_succ, dB, dD]
     rfl
   refine gz (i := 5) (N := some 10) (v := ?_) (a' := ?_) #[true, true, true, true, true, true, false, false, false, false, false, false, false] rfl rfl (dZ kK.out (by kernel_rfl)) (fun _ _ _ h => h) (Or.inl ⟨by rfl, ?_⟩) ?_ ?_
   rotate_left
   · intro w'
     go_simp
     with_reducible rfl
   rotate_left
   · simp only [Act.put, List.setIfInBounds_toArray, List.set_cons_zero, List.set_cons_succ, dB, dD]
     rfl
   refine gz (i := 6) (N := some 11) (v := undef) (a' := ?_) #[true, true, true, true, true, true, true, false, false, false, false, false, false] rfl rfl (dZ kK.out (by kernel_rfl)) (fun _ _ _ h => h) (Or.inr ⟨by rfl, rfl⟩) ?_ ?_
   rotate_left
   · simp only [Act.put, List.setIfInBounds_toArray, List.set_cons_zero, List.set_cons_succ, dB, dD]
     rfl
   refine gz (i := 7) (N := some 12) (v := undef) (a' := ?_) #[true, true, true, true, true, true, true, true, false, false, false, false, false] rfl rfl (dZ kK.out (by kernel_rfl)) (fun _ _ _ h => h) (Or.inr ⟨by rfl, rfl⟩) ?_ ?_
   rotate_left
   · simp only [Act.put, List.setIfInBounds_toArray, List.set_cons_zero, List.set_cons_succ, dB, dD]
     rfl
   refine gz (i := 8) (N := some 13) (v := undef) (a' := ?_) #[true, true, true, true, true, true, true, true, true, false, false, false, false] rfl rfl (dZ kK.out (by kernel_rfl)) (fun _ _ _ h => h) (Or.inr ⟨by rfl, rfl⟩) ?_ ?_
   rotate_left
   · simp only [Act.put, List.setIfInBounds_toArray, List.set_cons_zero, List.set_cons_succ, dB, dD]
     rfl
   refine gz (i := 9) (N := some 14) (v := undef) (a' := ?_) #[true, true, true, true, true, true, true, true, true, true, false, false, false] rfl rfl (dZ kK.out (by kernel_rfl)) (fun _ _ _ h => h) (Or.inr ⟨by rfl, rfl⟩) ?_ ?_
   rotate_left
   · simp only [Act.put, List.setIfInBounds_toArray, List.set_cons_zero, List.set_cons_succ, dB, dD]
     rfl
   refine gz (i := 10) (N := some 15) (v := undef) (a' := ?_) #[true, true, true, true, true, true, true, true, true, true, true, false, false] rfl rfl (dZ kK.out (by kernel_rfl)) (fun _ _ _ h => h) (Or.inr ⟨by rfl, rfl⟩) ?_ ?_
   rotate_left
   · simp only [Act.put, List.setIfInBounds_toArray, List.set_cons_zero, List.set_cons_succ, dB, dD]
     rfl
   refine gz (i := 11) (N := some 16) (v := ?_) (a' := ?_) #[true, true, true, true, true, true, true, true, true, true, true, true, false] rfl rfl (dZ kK.out (by kernel_rfl)) (fun _ _ _ h => h) (Or.inl ⟨by rfl, ?_⟩) ?_ ?_
   rotate_left
   · intro w'
     go_simp
     with_reducible rfl
   rotate_left
   · simp only [Act.put, List.setIfInBounds_toArray, List.set_cons_zero, List.set_cons_succ, dB, dD]
     rfl
   refine gz (i := 12) (N := some 4) (v := ?_) (a' := ?_) #[true, true, true, true, true, true, true, true, true, true, true, true, true] rfl rfl (dZ kK.out (by kernel_rfl)) (fun _ _ _ h => h) (Or.inl ⟨by rfl, ?_⟩) ?_ ?_
   rotate_left
   · intro w'
     go_simp
     with_reducible rfl
   rotate_left
   · simp only [Act.put, List.setIfInBounds_toArray, List.set_cons_zero, List.set_cons_succ, dB, dD]
     rfl
   refine MK (AA kK.out (by kernel_rfl)) ?_
   try go_wp2
   go_ret
   exact ⟨by first | rfl | (simp [aU, aT] <;> rfl) | (simp [*, aU, aT] <;> rfl), by repeat (first | (with_reducible first | exact HB.out | apply ak | apply ah | apply au | refine aA ?_ qR.out | refine aA ?_ Dj.out) | exact HB.out)⟩
def bits_Mul.f (a0 : Int) (a1 : Int) : Option (Int × Int) := (bits_Mul64.f a0 a1).bind fun Jl => (some (Jl.1, Jl.2))
theorem bits_Mul.calls (a0 : Int) (a1 : Int) (r1 : Int) (r2 : Int) (w : World) (h : bits_Mul.f a0 a1 = some (r1, r2)) :
 Calls Tryz.prog 211 #[.int .u64 a0, .int .u64 a1] w fun e w' => e = .returned (.tuple #[.int .u64 r1, .int .u64 r2]) ∧ bY w w' := by
 have H : ((bits_Mul64.f a0 a1).bind fun Jl => (some (Jl.1, Jl.2))) = some (r1, r2) := h
 clear h
 replace H := Option.bind_eq_some_iff.mp H
 obtain ⟨⟨t165, t166⟩, zN, H⟩ := H
 replace H : (some (t165, t166)) = some (r1, r2) := H
 have A3 := aj.mk zN
 clear zN
 simp only [Option.some.injEq, Prod.mk.injEq] at H
 obtain ⟨rfl, rfl⟩ := H
 go_enter Tryz.func211, Tryz.ntmps211
 go_wp2_with (first | ((with_reducible refine aK (f := 147) rfl ?_); refine bC (some 25) rfl rfl Tryz.func147 (by kernel_rfl) rfl #[.int .u64 a0, .int .u64 a1] rfl (by (try simp only [List.map_toArray, List.map_cons, List.map_nil]); first | done | rfl | (simp only [List.length_drop, List.length_take]; rfl)) ?_; (with_reducible refine (bits_Mul64.calls a0 a1 t165 t166 _ A3.out).mono ?_); rintro e w' ⟨rfl, ⟨nd, rfl⟩⟩; refine ⟨_, rfl, ?_⟩))
 go_ret2
 exact ⟨by first | rfl | (simp; done) | (simp [*]; done), by repeat (first | exact bY.refl _ | apply bY.step)⟩
def mZ.f  : Option (Int × Int × Int × Int × Int × Int) := some (2097152, 16777216, 262144, 16777216, 16777216, 268435456)
theorem mZ.calls  (r1 : Int) (r2 : Int) (r3 : Int) (r4 : Int) (r5 : Int) (r6 : Int) (w : World) (h : mZ.f  = some (r1, r2, r3, r4, r5, r6)) :
 Calls Tryz.prog 32 #[] w fun e w' => e = .returned (.agg #[.int .i64 r1, .int .i64 r2, .int .i64 r3, .int .i64 r4, .int .i64 r5, .int .i64 r6]) ∧ Below w.heap.size w w' := by
 have Zp := Tryz.underlying24
 have HB := aj.mk (Below.refl w.heap.size w)
 have H : (some (2097152, 16777216, 262144, 16777216, 16777216, 268435456)) = some (r1, r2, r3, r4, r5, r6) := h
 clear h
 simp only [Option.some.injEq, Prod.mk.injEq] at H
 obtain ⟨rfl, rfl, rfl, rfl, rfl, rfl⟩ := H
 go_enter Tryz.func32, Tryz.ntmps32
 go_wp2_with (first | ((with_reducible refine dI (N := 0) rfl ?_); refine cZ ?hg (N := 0) ?hd (cs := #[.int .i64 0, .int .i64 0, .int .i64 0, .int .i64 0, .int .i64 0, .int .i64 0]) (t := 24) ?hr ?_; (case hd => rfl); (case hg => rfl); (case hr => first | (go_simp; done) | (go_simp; rfl)); intro xO hg w1 hbox hb; have bK := aj.mk (aV (by repeat (first | (with_reducible first | exact HB.out | apply ak | apply ah | apply au) | exact HB.out)) hb); have dW := aj.mk (hbox); have eG := aj.mk ((by rw [hg]; exact (bz (by repeat (first | (with_reducible first | exact HB.out | apply ak | apply ah | apply au) | exact HB.out))) : w.heap.size ≤ xO)); have fP := aj.mk ((by rw [hg]; exact (bz (by repeat (first | (with_reducible first | exact HB.out | apply ak | apply ah | apply au) | exact HB.out))) : w.heap.size ≤ xO)); clear HB; have HB := bK; have qU := dW; have aiy := eG; have aby := fP; clear bK dW eG fP; clear hb hbox hg; have afj : w1.cell? ⟨xO, 0, none⟩ = some (.int .i64 0) := (az qU.out 0).trans rfl; have afi : w1.cell? ⟨xO, 1, none⟩ = some (.int .i64 0) := (az qU.out 1).trans rfl; have afh : w1.cell? ⟨xO, 2, none⟩ = some (.int .i64 0) := (az qU.out 2).trans rfl; have afg : w1.cell? ⟨xO, 3, none⟩ = some (.int .i64 0) := (az qU.out 3).trans rfl; have aff : w1.cell? ⟨xO, 4, none⟩ = some (.int .i64 0) := (az qU.out 4).trans rfl; have afe : w1.cell? ⟨xO, 5, none⟩ = some (.int .i64 0) := (az qU.out 5).trans rfl; have ae9 := ay qU.out 0; have ae8 := ay qU.out 1; have ae7 := ay qU.out 2; have ae6 := ay qU.out 3; have ae5 := ay qU.out 4; have ae4 := ay qU.out 5))
 refine bodyPost_ret (results_cell_row rfl _ _ xO 24 #[.int .i64 2097152, .int .i64 16777216, .int .i64 262144, .int .i64 16777216, .int .i64 16777216, .int .i64 268435456] (0, 0) _ rfl (by (with_reducible repeat (first | refine aC ?_ _ | refine aH ?_ | refine aG ?_ _)); refine fH (cs := #[.int .i64 2097152, .int .i64 16777216, .int .i64 262144, .int .i64 16777216, .int .i64 16777216, .int .i64 0]) ?_ 5 _ rfl; (with_reducible repeat (first | refine aC ?_ _ | refine aH ?_ | refine aG ?_ _)); refine fH (cs := #[.int .i64 2097152, .int .i64 16777216, .int .i64 262144, .int .i64 16777216, .int .i64 0, .int .i64 0]) ?_ 4 _ rfl; (with_reducible repeat (first | refine aC ?_ _ | refine aH ?_ | refine aG ?_ _)); refine fH (cs := #[.int .i64 2097152, .int .i64 16777216, .int .i64 262144, .int .i64 0, .int .i64 0, .int .i64 0]) ?_ 3 _ rfl; (with_reducible repeat (first | refine aC ?_ _ | refine aH ?_ | refine aG ?_ _)); refine fH (cs := #[.int .i64 2097152, .int .i64 16777216, .int .i64 0, .int .i64 0, .int .i64 0, .int .i64 0]) ?_ 2 _ rfl; (with_reducible repeat (first | refine aC ?_ _ | refine aH ?_ | refine aG ?_ _)); refine fH (cs := #[.int .i64 2097152, .int .i64 0, .int .i64 0, .int .i64 0, .int .i64 0, .int .i64 0]) ?_ 1 _ rfl; (with_reducible repeat (first | refine aC ?_ _ | refine aH ?_ | refine aG ?_ _)); refine fH (cs := #[.int .i64 0, .int .i64 0, .int .i64 0, .int .i64 0, .int .i64 0, .int .i64 0]) ?_ 0 _ rfl; (with_reducible repeat (first | refine aC ?_ _ | refine aH ?_ | refine aG ?_ _)); exact qU.out) Tryz.underlying24 rfl (by kernel_rfl)) rfl ?_
 exact ⟨by first | rfl | (simp [aU, aT] <;> rfl) | (simp [*, aU, aT] <;> rfl), by repeat (first | (with_reducible first | exact HB.out | apply ak | apply ah | apply au | refine aA ?_ aby.out) | exact HB.out)⟩
def fM.f (a0 : Int) : Option (Bool) := if a0 ≥ (-70368744177664) then (some (decide (a0 ≤ 70368744177663))) else (some false)
theorem fM.calls (a0 : Int) (r : Bool) (w : World) (h : fM.f a0 = some r) :
 Calls Tryz.prog 51 #[.int .i64 a0] w fun e w' => e = .returned (.bool r) ∧ bY w w' := by
 have H : (if a0 ≥ (-70368744177664) then (some (decide (a0 ≤ 70368744177663))) else (some false)) = some r := h
 clear h
 by_cases c2 : a0 ≥ (-70368744177664)
 · rw [if_pos c2] at H
   have Xz : decide ((-70368744177664) ≤ a0) = true := decide_eq_true c2
   clear c2
   obtain rfl := Option.some.inj H
   go_enter Tryz.func51, Tryz.ntmps51
   go_wp2
   go_ret
   exact ⟨by first | rfl | (simp; done) | (simp [*]; done), by repeat (first | exact bY.refl _ | apply bY.step)⟩
 · rw [if_neg c2] at H
   have Xz : decide ((-70368744177664) ≤ a0) = false := decide_eq_false c2
   clear c2
   obtain rfl := Option.some.inj H
   go_enter Tryz.func51, Tryz.ntmps51
   go_wp2
   go_ret
   exact ⟨by first | rfl | (simp; done) | (simp [*]; done), by repeat (first | exact bY.refl _ | apply bY.step)⟩
def dS.l0 : Nat → Int → Int → List Int → Int → Option (Int × Int × List Int)
 | 0, _, _, _, _ => none
 | k + 1, x0, x1, x5, x6 => if x6 < (wrap64 (x0 * x1)) then (if x5.length < 17592186044416 then (dS.l0 k x0 x1 (x5 ++ [0]) (wrap64 (x6 + 1))) else (none)) else (some (x0, x1, x5))
def dS.f (k : Nat) (a0 : Int) (a1 : Int) : Option (Int × Int × List Int) := dS.l0 k a0 a1 ([] : List Int) 0
theorem dS.calls (k : Nat) (a0 : Int) (a1 : Int) (r1 : Int) (r2 : Int) (r3 : List Int) (w : World) (h : dS.f k a0 a1 = some (r1, r2, r3)) :
 Calls Tryz.prog 45 #[.int .i64 a0, .int .i64 a1] w fun e w' => ∃ DY : Value, e = .returned (.agg #[.int .i64 r1, .int .i64 r2, DY]) ∧ Kd.R (Kd.int .i64) 22 w' w.heap.size (fun _ => True) DY r3 ∧ Below w.heap.size w w' := by
 have DK := Tryz.underlying29
 have HB := aj.mk (Below.refl w.heap.size w)
 have H : (dS.l0 k a0 a1 ([] : List Int) 0) = some (r1, r2, r3) := h
 clear h
 have H' := aj.mk H
 clear H
 go_enter Tryz.func45, Tryz.ntmps45
 go_wp2_with (first | ((with_reducible refine dI (N := 4) rfl ?_); refine cZ ?hg (N := 4) ?hd (cs := #[.int .i64 0, .int .i64 0, .slice none 0 0]) (t := 29) ?hr ?_; (case hd => rfl); (case hg => rfl); (case hr => first | (go_simp; done) | (go_simp; rfl)); intro uq hg w3 hbox hb; have bK := aj.mk (aV (by repeat (first | (with_reducible first | exact HB.out | apply ak | apply ah | apply au) | exact HB.out)) hb); have dW := aj.mk (hbox); have eG := aj.mk ((by rw [hg]; exact (bz (by repeat (first | (with_reducible first | exact HB.out | apply ak | apply ah | apply au) | exact HB.out))) : w.heap.size ≤ uq)); have fP := aj.mk ((by rw [hg]; exact (bz (by repeat (first | (with_reducible first | exact HB.out | apply ak | apply ah | apply au) | exact HB.out))) : w.heap.size ≤ uq)); clear HB; have HB := bK; have pU := dW; have aix := eG; have Jw := fP; clear bK dW eG fP; clear hb hbox hg))
 go_loopg [5, 6] k (fun kq v5 v6 w' => ∃ (Ih : List Int) (Ig : Int), v6 = .int .i64 Ig ∧ aj (dS.l0 kq a0 a1 Ih Ig = some (r1, r2, r3)) ∧ aj (kq ≤ k) ∧ aj (Kd.R (Kd.int .i64) 22 w' w.heap.size (fun _ => True) v5 Ih) ∧ aj (w'.heap[uq]? = some (.cells #[.int .i64 0, .int .i64 0, (.slice none 0 0)] 29 (0, 0))) ∧ aj (Below w.heap.size w w'))
 case atStart => exact ⟨(([] : List Int)), (0), (by first | rfl | (simp; done) | (simp [*]; done)), H', ⟨Nat.le_refl _⟩, ⟨by first | exact Kd.Jr _ _ _ _ _ | exact Kd.aa0 _ _ _ _ _ | exact Kd.aau _ _ _ _ _ | exact Kd.aaC _ _ _ _ _ | exact Kd.aaz _ _ _ _ _⟩, ⟨by (with_reducible repeat (first | refine aC ?_ _ | refine aH ?_ | refine aG ?_ _)); exact pU.out⟩, ⟨by repeat (first | (with_reducible first | exact HB.out | apply ak | apply ah | apply au | refine aA ?_ Jw.out) | exact HB.out)⟩⟩
 case round =>
  clear H'
  try clear p2
  obtain ⟨Ih, Ig, rfl, HA, EI, RU, pU, HB⟩ := hrel
  cases gk with
  | zero => exact absurd HA.out (by simp [dS.l0])
  | succ k1 =>
    have H := HA.out
    clear HA
    simp only [dS.l0] at H
    by_cases c4 : Ig < (wrap64 (a0 * a1))
    · rw [if_pos c4] at H
      have rP : decide (Ig < (wrap64 (a0 * a1))) = true := decide_eq_true c4
      clear c4
      by_cases c5 : Ih.length < 17592186044416
      · rw [if_pos c5] at H
        have agd := aj.mk c5
        clear c5
        obtain ⟨YR, IM⟩ : ∃ y_ : List Int, y_ = (Ih ++ [0]) := ⟨_, rfl⟩
        replace H : (dS.l0 k1 a0 a1 YR (wrap64 (Ig + 1))) = some (r1, r2, r3) := by first | (rw [IM]; with_reducible exact H) | (have Yp := (Option.bind_some _ _).symm.trans H; rw [IM]; with_reducible exact Yp) | (have Yp := (Option.bind_some _ _).symm.trans H; with_reducible exact Yp) | with_reducible exact H | (rw [IM]; exact H) | exact H
        have aaY := aj.mk IM
        clear IM
        have H' := aj.mk H
        clear H
        go_wp2_with (first | ((with_reducible refine Hl (b := .append) (xs := #[.tmp 14, .tmp 15]) rfl ?_); at_builtin; refine Kd.Rt (Kd.int .i64) (w0 := w) w.heap.size rfl (.tmp 14) (.tmp 15) 27 22 (.int .i64 0) 8 rfl Tryz.underlying27 info22 rfl (by decide) (by omega) u5 Ih 0 [.int .i64 0] (fun _ => True) (fun _ => False) rfl rfl ?aP (fun _ hk => hk.elim) ?aF ?aO ?aB ?aS ?aL ?_; (case aP => exact rfl); (case aB => exact (by repeat (first | (with_reducible first | exact HB.out | apply ak | apply ah | apply au | refine aA ?_ Jw.out) | exact HB.out))); (case aF => exact (fun _ _ => trivial)); (case aO => exact (by (with_reducible repeat (first | apply Kd.gI | apply Kd.gG | apply Kd.iL)); exact RU.out)); (case aS => exact (bz (by repeat (first | (with_reducible first | exact HB.out | apply ak | apply ah | apply au | refine aA ?_ Jw.out) | exact HB.out)))); (case aL => have := agd.out; omega); intro ai0 w6 ho hb hg hat; rw [← aaY.out] at ho; have bK := aj.mk (Em (g := uq) (o := .cells #[.int .i64 0, .int .i64 0, .slice none 0 0] 29 (0, 0)) (by (with_reducible repeat (first | refine aC ?_ _ | refine aH ?_ | refine aG ?_ _)); exact pU.out) hg (Kd.DT RU.out pU.out (by decide))); have dW := aj.mk (hb); have eG := aj.mk (ho); clear pU; clear HB; clear RU; have pU := bK; have HB := dW; have abm := eG; clear bK dW eG; clear ho hb hg hat))
        go_roundg k1
        case measure => have := EI.out; omega
        case rel => exact ⟨(YR), (wrap64 (Ig + 1)), (by first | rfl | (simp; done) | (simp [*]; done)), H', ⟨by have := EI.out; omega⟩, ⟨by (with_reducible repeat (first | apply Kd.gI | apply Kd.gG | apply Kd.iL)); exact abm.out⟩, ⟨by (with_reducible repeat (first | refine aC ?_ _ | refine aH ?_ | refine aG ?_ _)); exact pU.out⟩, ⟨by repeat (first | (with_reducible first | exact HB.out | apply ak | apply ah | apply au | refine aA ?_ Jw.out) | exact HB.out)⟩⟩
      · rw [if_neg c5] at H
        exact absurd H (by simp)
    · rw [if_neg c4] at H
      have rP : decide (Ig < (wrap64 (a0 * a1))) = false := decide_eq_false c4
      clear c4
      simp only [Option.some.injEq, Prod.mk.injEq] at H
      obtain ⟨rfl, rfl, rfl⟩ := H
      obtain ⟨Ao7, co7, eo7⟩ := Kd.m_ RU.out
      subst eo7
      have yI : wr.cell? ⟨uq, 0, none⟩ = some (.int .i64 0) := (az pU.out 0).trans rfl
      have yH : wr.cell? ⟨uq, 1, none⟩ = some (.int .i64 0) := (az pU.out 1).trans rfl
      have yG : wr.cell? ⟨uq, 2, none⟩ = some (.slice none 0 0) := (az pU.out 2).trans rfl
      have yE := ay pU.out 0
      have yD := ay pU.out 1
      have yC := ay pU.out 2
      go_wp2
      refine bodyPost_ret (results_cell_row rfl _ _ uq 29 #[.int .i64 a0, .int .i64 a1, .slice Ao7 Ih.length co7] (0, 0) _ rfl (by (with_reducible repeat (first | refine aC ?_ _ | refine aH ?_ | refine aG ?_ _)); refine fH (cs := #[.int .i64 a0, .int .i64 a1, .slice none 0 0]) ?_ 2 _ rfl; (with_reducible repeat (first | refine aC ?_ _ | refine aH ?_ | refine aG ?_ _)); refine fH (cs := #[.int .i64 a0, .int .i64 0, .slice none 0 0]) ?_ 1 _ rfl; (with_reducible repeat (first | refine aC ?_ _ | refine aH ?_ | refine aG ?_ _)); refine fH (cs := #[.int .i64 0, .int .i64 0, .slice none 0 0]) ?_ 0 _ rfl; (with_reducible repeat (first | refine aC ?_ _ | refine aH ?_ | refine aG ?_ _)); exact pU.out) Tryz.underlying29 rfl (by kernel_rfl)) rfl ?_
      exact ⟨_, by first | rfl | (simp [aU, aT] <;> rfl) | (simp [*, aU, aT] <;> rfl), by (with_reducible repeat (first | apply Kd.gI | apply Kd.gG | apply Kd.iL)); exact Kd.kJ (Kd.lT (p := ⟨uq, 2, none⟩) (Kd.lT (p := ⟨uq, 1, none⟩) (Kd.lT (p := ⟨uq, 0, none⟩) (Kd.rW RU.out pU.out (by decide)) (fun _ hk => hk.2) (.int .i64 a0)) (fun _ hk => hk.2) (.int .i64 a1)) (fun _ hk => hk.2) (.slice Ao7 Ih.length co7)) (fun _ hk => trivial), by repeat (first | (with_reducible first | exact HB.out | apply ak | apply ah | apply au | refine aA ?_ Jw.out) | exact HB.out)⟩
end Go.Proofs.YtcfobekkchhbbaaGreat.PQ

namespace Go.Proofs.YtcfobekkchhbbaaGreat.PQ
open Go.RowKit Go.Proofs.af.aQ Go.Proofs.af.a_ Go.Proofs.af.bg
attribute [local go_sem] iJ iH jI jH gV gU iI iG
set_option linter.unusedVariables false
set_option linter.unusedSimpArgs false
end Go.Proofs.YtcfobekkchhbbaaGreat.PQ

namespace Go.Proofs.YtcfobekkchhbbaaGreat.PQ
open Go.RowKit Go.Proofs.af.aQ Go.Proofs.af.a_ Go.Proofs.af.bg
attribute [local go_sem] iJ iH jI jH gV gU iI iG
set_option linter.unusedVariables false
set_option linter.unusedSimpArgs false
mutual
def aI.j0 : Nat → Bool → Int → Int → List Int → Option (Bool)
 | 0, _, _, _, _ => none
 | k + 1, x33, E8, EZ, xh => if x33 = true then (some false) else (aI.l0 k 0 E8 EZ xh)
def aI.l0 : Nat → Int → Int → Int → List Int → Option (Bool)
 | 0, _, _, _, _ => none
 | k + 1, x3, E8, EZ, xh => if x3 < (xh.length : Int) then (if 0 ≤ x3 then ((fM.f (rd xh x3)).bind fun t223 => (if t223 = true then (aI.l0 k (wrap64 (x3 + 1)) E8 EZ xh) else (some false))) else (none)) else (some true)
end
def aI.f (k : Nat) (aZ : Int) (bn : Int) (bf : List Int) : Option (Bool) := if aZ < 1 then (aI.j0 k true aZ bn bf) else (if aZ > 8 then (aI.j0 k true aZ bn bf) else (if bn < 1 then (aI.j0 k true aZ bn bf) else (if bn > 8 then (aI.j0 k true aZ bn bf) else (aI.j0 k ((bf.length : Int) != (wrap64 (aZ * bn))) aZ bn bf))))
theorem aI.Qi : ∀ k, (∀ y0 y1 y2 y3, oU (aI.j0 k y0 y1 y2 y3) (aI.j0 (k + 1) y0 y1 y2 y3)) ∧ (∀ y0 y1 y2 y3, oU (aI.l0 k y0 y1 y2 y3) (aI.l0 (k + 1) y0 y1 y2 y3))
 | 0 => ⟨fun _ _ _ _ r h => by simp [aI.j0] at h, fun _ _ _ _ r h => by simp [aI.l0] at h⟩
 | k + 1 => by
   obtain ⟨Xc, ih1⟩ := aI.Qi k
   refine ⟨?_, ?_⟩
   · intro y0 y1 y2 y3
     unfold aI.j0
     repeat' first
     | (with_reducible exact Xc _ _ _ _)
     | (with_reducible exact ih1 _ _ _ _)
     | (with_reducible exact oU.refl _)
     | (with_reducible exact oU.none _)
     | (with_reducible refine oU.ite ?_ ?_)
     | (with_reducible refine oU.bind ?_ (fun _ => ?_))
     | exact Xc _ _ _ _
     | exact ih1 _ _ _ _
     | exact oU.none _
     | refine oU.ite ?_ ?_
     | refine oU.bind ?_ (fun _ => ?_)
   · intro y0 y1 y2 y3
     unfold aI.l0
     repeat' first
     | (with_reducible exact Xc _ _ _ _)
     | (with_reducible exact ih1 _ _ _ _)
     | (with_reducible exact oU.refl _)
     | (with_reducible exact oU.none _)
     | (with_reducible refine oU.ite ?_ ?_)
     | (with_reducible refine oU.bind ?_ (fun _ => ?_))
     | exact Xc _ _ _ _
     | exact ih1 _ _ _ _
     | exact oU.none _
     | refine oU.ite ?_ ?_
     | refine oU.bind ?_ (fun _ => ?_)
theorem aI.mono : ∀ a0 a1 a2 k, oU (aI.f k a0 a1 a2) (aI.f (k + 1) a0 a1 a2) := by
 intro a0 a1 a2 k
 obtain ⟨Xc, ih1⟩ := aI.Qi k
 unfold aI.f
 repeat' first
  | (with_reducible exact Xc _ _ _ _)
  | (with_reducible exact ih1 _ _ _ _)
  | (with_reducible exact oU.refl _)
  | (with_reducible exact oU.none _)
  | (with_reducible refine oU.ite ?_ ?_)
  | (with_reducible refine oU.bind ?_ (fun _ => ?_))
  | exact Xc _ _ _ _
  | exact ih1 _ _ _ _
  | exact oU.none _
  | refine oU.ite ?_ ?_
  | refine oU.bind ?_ (fun _ => ?_)
theorem aI.calls (k : Nat) (aZ : Int) (bn : Int) (bU : Option Addr) (bT : Nat) (bf : List Int) (r : Bool) (w : World) (iV : Kd.C (Kd.int .i64) w bU bf.length bf) (jy : bf.length ≤ bT) (h : aI.f k aZ bn bf = some r) :
 Calls Tryz.prog 77 #[.agg #[.int .i64 aZ, .int .i64 bn, .slice bU bf.length bT]] w fun e w' => e = .returned (.bool r) ∧ Below w.heap.size w w' := by
 have DK := Tryz.underlying29
 have lY := aj.mk iV
 have oq := aj.mk jy
 clear iV jy
 have HB := aj.mk (Below.refl w.heap.size w)
 have H : (if aZ < 1 then (aI.j0 k true aZ bn bf) else (if aZ > 8 then (aI.j0 k true aZ bn bf) else (if bn < 1 then (aI.j0 k true aZ bn bf) else (if bn > 8 then (aI.j0 k true aZ bn bf) else (aI.j0 k ((bf.length : Int) != (wrap64 (aZ * bn))) aZ bn bf))))) = some r := h
 clear h
 have HC2 := aj.mk H
 clear H
 go_enter Tryz.func77, Tryz.ntmps77
 go_upto_region 1 with (first | ((with_reducible refine dI (N := 1) rfl ?_); (try (refine lN (by rfl) ?_; dsimp only)); refine cZ ?hg (N := 1) ?hd (cs := #[.int .i64 aZ, .int .i64 bn, .slice bU bf.length bT]) (t := 29) ?hr ?_; (case hd => rfl); (case hg => rfl); (case hr => first | (go_simp; done) | (go_simp; rfl)); intro ji hg w3 hbox hb; have bK := aj.mk (aV (by repeat (first | (with_reducible first | exact HB.out | apply ak | apply ah | apply au) | exact HB.out)) hb); have dW := aj.mk (hbox); have eG := aj.mk ((by rw [hg]; exact (bz (by repeat (first | (with_reducible first | exact HB.out | apply ak | apply ah | apply au) | exact HB.out))) : w.heap.size ≤ ji)); have fP := aj.mk ((by rw [hg]; exact (bz (by repeat (first | (with_reducible first | exact HB.out | apply ak | apply ah | apply au) | exact HB.out))) : w.heap.size ≤ ji)); clear HB; have HB := bK; have dX := dW; have aiw := eG; have wP := fP; clear bK dW eG fP; clear hb hbox hg))
 (try simp only [Act.put, List.setIfInBounds_toArray, List.set_cons_zero, List.set_cons_succ])
 go_cut [33] (fun v33 wc => ∃ (kq : Nat) (LG : Bool), v33 = .bool LG ∧ aj (aI.j0 kq LG aZ bn bf = some r) ∧ aj (kq ≤ k) ∧ aj (wc.heap[ji]? = some (.cells #[.int .i64 aZ, .int .i64 bn, (.slice bU bf.length bT)] 29 (0, 0))) ∧ aj (Below w.heap.size w wc))
 case first =>
  have H := HC2.out
  clear HC2
  by_cases c4 : aZ < 1
  · rw [if_pos c4] at H
    have rP : decide (aZ < 1) = true := decide_eq_true c4
    clear c4
    (first | rw [rP] | (simp only [dB, dD]; rw [rP]) | skip)
    have H' := aj.mk H
    clear H
    have KP : w3.cell? ⟨ji, 0, none⟩ = some (.int .i64 aZ) := (az dX.out 0).trans rfl
    have KO : w3.cell? ⟨ji, 1, none⟩ = some (.int .i64 bn) := (az dX.out 1).trans rfl
    have KN : w3.cell? ⟨ji, 2, none⟩ = some (.slice bU bf.length bT) := (az dX.out 2).trans rfl
    have KJ := ay dX.out 0
    have KI := ay dX.out 1
    have KH := ay dX.out 2
    go_wp2
    go_meet
    case rel => exact ⟨_, (true), (by first | rfl | (simp; done) | (simp [*]; done)), H', ⟨by first | omega | exact Nat.le_refl _⟩, ⟨by (with_reducible repeat (first | refine aC ?_ _ | refine aH ?_ | refine aG ?_ _)); exact dX.out⟩, ⟨by repeat (first | (with_reducible first | exact HB.out | apply ak | apply ah | apply au | refine aA ?_ wP.out) | exact HB.out)⟩⟩
  · rw [if_neg c4] at H
    have rP : decide (aZ < 1) = false := decide_eq_false c4
    clear c4
    (first | rw [rP] | (simp only [dB, dD]; rw [rP]) | skip)
    by_cases c6 : aZ > 8
    · rw [if_pos c6] at H
      have rO : decide (8 < aZ) = true := decide_eq_true c6
      clear c6
      have H' := aj.mk H
      clear H
      have QA : w3.cell? ⟨ji, 0, none⟩ = some (.int .i64 aZ) := (az dX.out 0).trans rfl
      have Qz : w3.cell? ⟨ji, 1, none⟩ = some (.int .i64 bn) := (az dX.out 1).trans rfl
      have Qy : w3.cell? ⟨ji, 2, none⟩ = some (.slice bU bf.length bT) := (az dX.out 2).trans rfl
      have Qw := ay dX.out 0
      have Qv := ay dX.out 1
      have Qu := ay dX.out 2
      go_wp2
      go_meet
      case rel => exact ⟨_, (true), (by first | rfl | (simp; done) | (simp [*]; done)), H', ⟨by first | omega | exact Nat.le_refl _⟩, ⟨by (with_reducible repeat (first | refine aC ?_ _ | refine aH ?_ | refine aG ?_ _)); exact dX.out⟩, ⟨by repeat (first | (with_reducible first | exact HB.out | apply ak | apply ah | apply au | refine aA ?_ wP.out) | exact HB.out)⟩⟩
    · rw [if_neg c6] at H
      have rO : decide (8 < aZ) = false := decide_eq_false c6
      clear c6
      by_cases c8 : bn < 1
      · rw [if_pos c8] at H
        have Hy : decide (bn < 1) = true := decide_eq_true c8
        clear c8
        have H' := aj.mk H
        clear H
        have rJ : w3.cell? ⟨ji, 0, none⟩ = some (.int .i64 aZ) := (az dX.out 0).trans rfl
        have uj : w3.cell? ⟨ji, 1, none⟩ = some (.int .i64 bn) := (az dX.out 1).trans rfl
        have uh : w3.cell? ⟨ji, 2, none⟩ = some (.slice bU bf.length bT) := (az dX.out 2).trans rfl
        have rH := ay dX.out 0
        have t_ := ay dX.out 1
        have tZ := ay dX.out 2
        go_wp2
        go_meet
        case rel => exact ⟨_, (true), (by first | rfl | (simp; done) | (simp [*]; done)), H', ⟨by first | omega | exact Nat.le_refl _⟩, ⟨by (with_reducible repeat (first | refine aC ?_ _ | refine aH ?_ | refine aG ?_ _)); exact dX.out⟩, ⟨by repeat (first | (with_reducible first | exact HB.out | apply ak | apply ah | apply au | refine aA ?_ wP.out) | exact HB.out)⟩⟩
      · rw [if_neg c8] at H
        have Hy : decide (bn < 1) = false := decide_eq_false c8
        clear c8
        by_cases c10 : bn > 8
        · rw [if_pos c10] at H
          have CV : decide (8 < bn) = true := decide_eq_true c10
          clear c10
          have H' := aj.mk H
          clear H
          have Az : w3.cell? ⟨ji, 0, none⟩ = some (.int .i64 aZ) := (az dX.out 0).trans rfl
          have Aw : w3.cell? ⟨ji, 1, none⟩ = some (.int .i64 bn) := (az dX.out 1).trans rfl
          have Au : w3.cell? ⟨ji, 2, none⟩ = some (.slice bU bf.length bT) := (az dX.out 2).trans rfl
          have Ar := ay dX.out 0
          have Aj := ay dX.out 1
          have Ad := ay dX.out 2
          go_wp2
          go_meet
          case rel => exact ⟨_, (true), (by first | rfl | (simp; done) | (simp [*]; done)), H', ⟨by first | omega | exact Nat.le_refl _⟩, ⟨by (with_reducible repeat (first | refine aC ?_ _ | refine aH ?_ | refine aG ?_ _)); exact dX.out⟩, ⟨by repeat (first | (with_reducible first | exact HB.out | apply ak | apply ah | apply au | refine aA ?_ wP.out) | exact HB.out)⟩⟩
        · rw [if_neg c10] at H
          have CV : decide (8 < bn) = false := decide_eq_false c10
          clear c10
          have H' := aj.mk H
          clear H
          have oI : w3.cell? ⟨ji, 0, none⟩ = some (.int .i64 aZ) := (az dX.out 0).trans rfl
          have oH : w3.cell? ⟨ji, 1, none⟩ = some (.int .i64 bn) := (az dX.out 1).trans rfl
          have oG : w3.cell? ⟨ji, 2, none⟩ = some (.slice bU bf.length bT) := (az dX.out 2).trans rfl
          have oD := ay dX.out 0
          have oz := ay dX.out 1
          have ou := ay dX.out 2
          go_wp2
          go_meet
          case rel => exact ⟨_, (((bf.length : Int) != (wrap64 (aZ * bn)))), (by first | rfl | (simp; done) | (simp [*]; done)), H', ⟨by first | omega | exact Nat.le_refl _⟩, ⟨by (with_reducible repeat (first | refine aC ?_ _ | refine aH ?_ | refine aG ?_ _)); exact dX.out⟩, ⟨by repeat (first | (with_reducible first | exact HB.out | apply ak | apply ah | apply au | refine aA ?_ wP.out) | exact HB.out)⟩⟩
 case rest =>
  clear HC2
  try clear c1
  try clear p2
  try clear c4
  try clear rP
  try clear c6
  try clear rO
  try clear p6
  try clear c7
  try clear c8
  try clear Hy
  try clear c10
  try clear CV
  try clear Az
  try clear Aw
  try clear Au
  try clear oI
  try clear oH
  try clear oG
  try clear KP
  try clear KO
  try clear KN
  try clear QA
  try clear Qz
  try clear Qy
  try clear rJ
  try clear uj
  try clear uh
  try clear Ar
  try clear Aj
  try clear Ad
  try clear oD
  try clear oz
  try clear ou
  try clear KJ
  try clear KI
  try clear KH
  try clear Qw
  try clear Qv
  try clear Qu
  try clear rH
  try clear t_
  try clear tZ
  obtain ⟨kq, LG, rfl, HA, HJ1, dX, HB⟩ := hcut
  cases kq with
  | zero => exact absurd HA.out (by simp [aI.j0])
  | succ kj1 =>
    have H := HA.out
    clear HA
    simp only [aI.j0] at H
    by_cases c13 : LG = true
    · subst c13
      rw [if_pos rfl] at H
      obtain rfl := Option.some.inj H
      go_wp2
      go_ret
      exact ⟨by first | rfl | (simp [aU, aT] <;> rfl) | (simp [*, aU, aT] <;> rfl), by repeat (first | (with_reducible first | exact HB.out | apply ak | apply ah | apply au | refine aA ?_ wP.out) | exact HB.out)⟩
    · replace c13 := Bool.eq_false_iff.mpr c13
      subst c13
      have H1 : (aI.l0 kj1 0 aZ bn bf) = some r := by rw [if_neg (show ¬ (false = true) by decide)] at H; exact H
      clear H
      have H := H1
      clear H1
      have H' := aj.mk H
      clear H
      go_wp2
      go_loopg [3] kj1 (fun kq v3 w' => ∃ (qI : Int), v3 = .int .i64 qI ∧ aj (aI.l0 kq qI aZ bn bf = some r) ∧ aj (kq ≤ kj1) ∧ aj (w'.heap[ji]? = some (.cells #[.int .i64 aZ, .int .i64 bn, (.slice bU bf.length bT)] 29 (0, 0))) ∧ aj (Below w.heap.size w w'))
      case atStart => exact ⟨(0), (by first | rfl | (simp; done) | (simp [*]; done)), H', ⟨Nat.le_refl _⟩, ⟨by (with_reducible repeat (first | refine aC ?_ _ | refine aH ?_ | refine aG ?_ _)); exact dX.out⟩, ⟨by repeat (first | (with_reducible first | exact HB.out | apply ak | apply ah | apply au | refine aA ?_ wP.out) | exact HB.out)⟩⟩
      case round =>
       clear H'
       try clear c1
       try clear p2
       try clear c4
       try clear rP
       try clear c6
       try clear rO
       try clear p6
       try clear c7
       try clear c8
       try clear Hy
       try clear c10
       try clear CV
       try clear c13
       try clear Az
       try clear Aw
       try clear Au
       try clear oI
       try clear oH
       try clear oG
       try clear KP
       try clear KO
       try clear KN
       try clear QA
       try clear Qz
       try clear Qy
       try clear rJ
       try clear uj
       try clear uh
       try clear Ar
       try clear Aj
       try clear Ad
       try clear oD
       try clear oz
       try clear ou
       try clear KJ
       try clear KI
       try clear KH
       try clear Qw
       try clear Qv
       try clear Qu
       try clear rH
       try clear t_
       try clear tZ
       try clear p2
       try clear p6
       obtain ⟨qI, rfl, HA, Ie, dX, HB⟩ := hrel
       cases gk with
       | zero => exact absurd HA.out (by simp [aI.l0])
       | succ k2 =>
         have H := HA.out
         clear HA
         simp only [aI.l0] at H
         by_cases c14 : qI < (bf.length : Int)
         · rw [if_pos c14] at H
           have n_ : decide (qI < (bf.length : Int)) = true := decide_eq_true c14
           clear c14
           by_cases c15 : 0 ≤ qI
           · rw [if_pos c15] at H
             have Q7 : decide (0 ≤ qI) = true := decide_eq_true c15
             clear c15
             replace H := Option.bind_eq_some_iff.mp H
             obtain ⟨t223, JB, H⟩ := H
             replace H : (if t223 = true then (aI.l0 k2 (wrap64 (qI + 1)) aZ bn bf) else (some false)) = some r := H
             have Nv := aj.mk JB
             clear JB
             by_cases c17 : t223 = true
             · subst c17
               rw [if_pos rfl] at H
               have H' := aj.mk H
               clear H
               have MG : wr.cell? ⟨ji, 0, none⟩ = some (.int .i64 aZ) := (az dX.out 0).trans rfl
               have UY : wr.cell? ⟨ji, 1, none⟩ = some (.int .i64 bn) := (az dX.out 1).trans rfl
               have UU : wr.cell? ⟨ji, 2, none⟩ = some (.slice bU bf.length bT) := (az dX.out 2).trans rfl
               have MC := ay dX.out 0
               have Uw := ay dX.out 1
               have Uu := ay dX.out 2
               have J8 : 0 ≤ (qI : Int) := of_decide_eq_true (by first | (with_reducible assumption) | assumption)
               have JY : qI < (bf.length : Int) := of_decide_eq_true (by first | (with_reducible assumption) | assumption)
               obtain ⟨aak, e222, rG⟩ := Kd.kH lY.out qI J8 JY
               cases e222
               replace rG := (HB.out.cell (World.block_lt_of_cell? w _ rG)).trans rG
               replace J8 := eq_true J8
               replace JY := eq_true JY
               go_wp2_with (first | ((with_reducible refine aK (f := 51) rfl ?_); refine bC (some 46) rfl rfl Tryz.func51 (by kernel_rfl) rfl #[.int .i64 (rd bf qI)] rfl (by (try simp only [List.map_toArray, List.map_cons, List.map_nil]); first | done | rfl | (simp only [List.length_drop, List.length_take]; rfl)) ?_; (with_reducible refine (fM.calls (rd bf qI) true _ Nv.out).mono ?_); rintro e w' ⟨rfl, ⟨nd, rfl⟩⟩; refine ⟨_, rfl, ?_⟩))
               go_roundg k2
               case measure => have := HJ1.out; have := Ie.out; omega
               case rel => exact ⟨(wrap64 (qI + 1)), (by first | rfl | (simp; done) | (simp [*]; done)), H', ⟨by have := HJ1.out; have := Ie.out; omega⟩, ⟨by (with_reducible repeat (first | refine aC ?_ _ | refine aH ?_ | refine aG ?_ _)); exact dX.out⟩, ⟨by repeat (first | (with_reducible first | exact HB.out | apply ak | apply ah | apply au | refine aA ?_ wP.out) | exact HB.out)⟩⟩
             · replace c17 := Bool.eq_false_iff.mpr c17
               subst c17
               have H1 : (some false) = some r := by rw [if_neg (show ¬ (false = true) by decide)] at H; exact H
               clear H
               have H := H1
               clear H1
               obtain rfl := Option.some.inj H
               have UR : wr.cell? ⟨ji, 0, none⟩ = some (.int .i64 aZ) := (az dX.out 0).trans rfl
               have UQ : wr.cell? ⟨ji, 1, none⟩ = some (.int .i64 bn) := (az dX.out 1).trans rfl
               have UO : wr.cell? ⟨ji, 2, none⟩ = some (.slice bU bf.length bT) := (az dX.out 2).trans rfl
               have Ut := ay dX.out 0
               have Us := ay dX.out 1
               have Ur := ay dX.out 2
               have J8 : 0 ≤ (qI : Int) := of_decide_eq_true (by first | (with_reducible assumption) | assumption)
               have JY : qI < (bf.length : Int) := of_decide_eq_true (by first | (with_reducible assumption) | assumption)
               obtain ⟨aak, e222, rG⟩ := Kd.kH lY.out qI J8 JY
               cases e222
               replace rG := (HB.out.cell (World.block_lt_of_cell? w _ rG)).trans rG
               replace J8 := eq_true J8
               replace JY := eq_true JY
               go_wp2_with (first | ((with_reducible refine aK (f := 51) rfl ?_); refine bC (some 46) rfl rfl Tryz.func51 (by kernel_rfl) rfl #[.int .i64 (rd bf qI)] rfl (by (try simp only [List.map_toArray, List.map_cons, List.map_nil]); first | done | rfl | (simp only [List.length_drop, List.length_take]; rfl)) ?_; (with_reducible refine (fM.calls (rd bf qI) false _ Nv.out).mono ?_); rintro e w' ⟨rfl, ⟨nd, rfl⟩⟩; refine ⟨_, rfl, ?_⟩))
               go_ret
               exact ⟨by first | rfl | (simp [aU, aT] <;> rfl) | (simp [*, aU, aT] <;> rfl), by repeat (first | (with_reducible first | exact HB.out | apply ak | apply ah | apply au | refine aA ?_ wP.out) | exact HB.out)⟩
           · rw [if_neg c15] at H
             exact absurd H (by simp)
         · rw [if_neg c14] at H
           have n_ : decide (qI < (bf.length : Int)) = false := decide_eq_false c14
           clear c14
           obtain rfl := Option.some.inj H
           have adr : wr.cell? ⟨ji, 0, none⟩ = some (.int .i64 aZ) := (az dX.out 0).trans rfl
           have adq : wr.cell? ⟨ji, 1, none⟩ = some (.int .i64 bn) := (az dX.out 1).trans rfl
           have adp : wr.cell? ⟨ji, 2, none⟩ = some (.slice bU bf.length bT) := (az dX.out 2).trans rfl
           have acM := ay dX.out 0
           have acL := ay dX.out 1
           have acK := ay dX.out 2
           go_wp2
           go_ret
           exact ⟨by first | rfl | (simp [aU, aT] <;> rfl) | (simp [*, aU, aT] <;> rfl), by repeat (first | (with_reducible first | exact HB.out | apply ak | apply ah | apply au | refine aA ?_ wP.out) | exact HB.out)⟩
end Go.Proofs.YtcfobekkchhbbaaGreat.PQ

namespace Go.Proofs.YtcfobekkchhbbaaGreat.PQ
open Go.RowKit Go.Proofs.af.aQ Go.Proofs.af.a_ Go.Proofs.af.bg
attribute [local go_sem] iJ iH jI jH gV gU iI iG
set_option linter.unusedVariables false
set_option linter.unusedSimpArgs false
mutual
def aN.j0 : Nat → Int → Bool → Int → Int → List Int → Int → Int → List Int → Option (Bool)
 | 0, _, _, _, _, _, _, _, _ => none
 | k + 1, x5, x42, uS, uQ, uP, uO, uN, lD => if x42 = true then (some false) else (aN.l0 k x5 0 uS uQ uP uO uN lD)
def aN.l0 : Nat → Int → Int → Int → Int → List Int → Int → Int → List Int → Option (Bool)
 | 0, _, _, _, _, _, _, _, _ => none
 | k + 1, x5, x6, uS, uQ, uP, uO, uN, lD => if x6 < x5 then (if 0 ≤ (wrap64 ((wrap64 (x6 * x5)) + x6)) then (if (wrap64 ((wrap64 (x6 * x5)) + x6)) < (lD.length : Int) then (if (rd lD (wrap64 ((wrap64 (x6 * x5)) + x6))) < 0 then (some false) else (aN.l1 k x5 x6 0 uS uQ uP uO uN lD)) else (none)) else (none)) else (some true)
def aN.l1 : Nat → Int → Int → Int → Int → Int → List Int → Int → Int → List Int → Option (Bool)
 | 0, _, _, _, _, _, _, _, _, _ => none
 | k + 1, x5, x6, x7, uS, uQ, uP, uO, uN, lD => if x7 < x6 then (if 0 ≤ (wrap64 ((wrap64 (x6 * x5)) + x7)) then (if (wrap64 ((wrap64 (x6 * x5)) + x7)) < (lD.length : Int) then (if 0 ≤ (wrap64 ((wrap64 (x7 * x5)) + x6)) then (if (wrap64 ((wrap64 (x7 * x5)) + x6)) < (lD.length : Int) then (if (rd lD (wrap64 ((wrap64 (x6 * x5)) + x7))) = (rd lD (wrap64 ((wrap64 (x7 * x5)) + x6))) then (aN.l1 k x5 x6 (wrap64 (x7 + 1)) uS uQ uP uO uN lD) else (some false)) else (none)) else (none)) else (none)) else (none)) else (aN.l0 k x5 (wrap64 (x6 + 1)) uS uQ uP uO uN lD)
end
def aN.f (k : Nat) (aZ : Int) (bn : Int) (bf : List Int) (dH : Int) (dL : Int) (bW : List Int) : Option (Bool) := (aI.f k aZ bn bf).bind fun t225 => ((aI.f k dH dL bW).bind fun t226 => (if t225 = true then (if t226 = true then (if bn = 1 then (if dH = aZ then (aN.j0 k aZ (dL != aZ) aZ bn bf dH dL bW) else (aN.j0 k aZ true aZ bn bf dH dL bW)) else (aN.j0 k aZ true aZ bn bf dH dL bW)) else (aN.j0 k aZ true aZ bn bf dH dL bW)) else (aN.j0 k aZ true aZ bn bf dH dL bW)))
theorem aN.calls (k : Nat) (aZ : Int) (bn : Int) (bU : Option Addr) (bT : Nat) (bf : List Int) (dH : Int) (dL : Int) (ig : Option Addr) (gK : Nat) (bW : List Int) (r : Bool) (w : World) (iV : Kd.C (Kd.int .i64) w bU bf.length bf) (jy : bf.length ≤ bT) (zo : Kd.C (Kd.int .i64) w ig bW.length bW) (zx : bW.length ≤ gK) (h : aN.f k aZ bn bf dH dL bW = some r) :
 Calls Tryz.prog 35 #[.agg #[.int .i64 aZ, .int .i64 bn, .slice bU bf.length bT, .int .i64 dH, .int .i64 dL, .slice ig bW.length gK]] w fun e w' => e = .returned (.bool r) ∧ Below w.heap.size w w' := by
 have Zo := Tryz.underlying31
 have DK := Tryz.underlying29
 have lY := aj.mk iV
 have oq := aj.mk jy
 clear iV jy
 have r_ := aj.mk zo
 have EJ := aj.mk zx
 clear zo zx
 have HB := aj.mk (Below.refl w.heap.size w)
 have H : ((aI.f k aZ bn bf).bind fun t225 => ((aI.f k dH dL bW).bind fun t226 => (if t225 = true then (if t226 = true then (if bn = 1 then (if dH = aZ then (aN.j0 k aZ (dL != aZ) aZ bn bf dH dL bW) else (aN.j0 k aZ true aZ bn bf dH dL bW)) else (aN.j0 k aZ true aZ bn bf dH dL bW)) else (aN.j0 k aZ true aZ bn bf dH dL bW)) else (aN.j0 k aZ true aZ bn bf dH dL bW)))) = some r := h
 clear h
 replace H := Option.bind_eq_some_iff.mp H
 obtain ⟨t225, A20, H⟩ := H
 replace H : ((aI.f k dH dL bW).bind fun t226 => (if t225 = true then (if t226 = true then (if bn = 1 then (if dH = aZ then (aN.j0 k aZ (dL != aZ) aZ bn bf dH dL bW) else (aN.j0 k aZ true aZ bn bf dH dL bW)) else (aN.j0 k aZ true aZ bn bf dH dL bW)) else (aN.j0 k aZ true aZ bn bf dH dL bW)) else (aN.j0 k aZ true aZ bn bf dH dL bW))) = some r := H
 have A2 := aj.mk A20
 clear A20
 replace H := Option.bind_eq_some_iff.mp H
 obtain ⟨t226, zN, H⟩ := H
 replace H : (if t225 = true then (if t226 = true then (if bn = 1 then (if dH = aZ then (aN.j0 k aZ (dL != aZ) aZ bn bf dH dL bW) else (aN.j0 k aZ true aZ bn bf dH dL bW)) else (aN.j0 k aZ true aZ bn bf dH dL bW)) else (aN.j0 k aZ true aZ bn bf dH dL bW)) else (aN.j0 k aZ true aZ bn bf dH dL bW)) = some r := H
 have A3 := aj.mk zN
 clear zN
 have Yl := aj.mk H
 clear H
 go_enter Tryz.func35, Tryz.ntmps35
 go_upto_region 4 with (first | ((with_reducible refine dI (N := 1) rfl ?_); refine cZ ?hg (N := 1) ?hd (cs := #[.int .i64 aZ, .int .i64 bn, .slice bU bf.length bT, .int .i64 dH, .int .i64 dL, .slice ig bW.length gK]) (t := 31) ?hr ?_; (case hd => rfl); (case hg => rfl); (case hr => first | (go_simp; done) | (go_simp; rfl)); intro bJ hg w5 hbox hb; have bK := aj.mk (aV (by repeat (first | (with_reducible first | exact HB.out | apply ak | apply ah | apply au) | exact HB.out)) hb); have dW := aj.mk (hbox); have eG := aj.mk ((by rw [hg]; exact (bz (by repeat (first | (with_reducible first | exact HB.out | apply ak | apply ah | apply au) | exact HB.out))) : w.heap.size ≤ bJ)); have fP := aj.mk ((by rw [hg]; exact (bz (by repeat (first | (with_reducible first | exact HB.out | apply ak | apply ah | apply au) | exact HB.out))) : w.heap.size ≤ bJ)); clear HB; have HB := bK; have aY := dW; have Wu := eG; have lC := fP; clear bK dW eG fP; clear hb hbox hg; have um : w5.cell? ⟨bJ, 0, none⟩ = some (.int .i64 aZ) := (az aY.out 0).trans rfl; have uk : w5.cell? ⟨bJ, 1, none⟩ = some (.int .i64 bn) := (az aY.out 1).trans rfl; have wV : w5.cell? ⟨bJ, 2, none⟩ = some (.slice bU bf.length bT) := (az aY.out 2).trans rfl; have BQ : w5.cell? ⟨bJ, 3, none⟩ = some (.int .i64 dH) := (az aY.out 3).trans rfl; have BP : w5.cell? ⟨bJ, 4, none⟩ = some (.int .i64 dL) := (az aY.out 4).trans rfl; have BO : w5.cell? ⟨bJ, 5, none⟩ = some (.slice ig bW.length gK) := (az aY.out 5).trans rfl; have ug := ay aY.out 0; have uf := ay aY.out 1; have wU := ay aY.out 2; have BJ := ay aY.out 3; have BI := ay aY.out 4; have BH := ay aY.out 5) | (go_at_call 77; (with_reducible refine (aI.calls k aZ bn _ _ bf t225 _ ?gm ?f_ A2.out).mono ?_); (case gm => repeat (first | exact (Kd.fQ lY.out HB.out) | (with_reducible refine Kd.gZ ?_ _) | (with_reducible refine Kd.gY ?_ _) | (with_reducible refine Kd.jh ?_))); (case f_ => exact oq.out); rintro e w7 ⟨rfl, hb⟩; have bK := aj.mk (bI (g := bJ) (o := .cells #[.int .i64 aZ, .int .i64 bn, .slice bU bf.length bT, .int .i64 dH, .int .i64 dL, .slice ig bW.length gK] 31 (0, 0)) (by (with_reducible repeat (first | refine aC ?_ _ | refine aH ?_ | refine aG ?_ _)); exact aY.out) hb); have dW := aj.mk (aV (by repeat (first | (with_reducible first | exact HB.out | apply ak | apply ah | apply au | refine aA ?_ lC.out) | exact HB.out)) hb); clear aY; clear HB; have aY := bK; have HB := dW; clear bK dW; (try clear hb); (try clear hb2); (try clear hk); (try clear hi); have yI : w7.cell? ⟨bJ, 0, none⟩ = some (.int .i64 aZ) := (az aY.out 0).trans rfl; have yH : w7.cell? ⟨bJ, 1, none⟩ = some (.int .i64 bn) := (az aY.out 1).trans rfl; have yG : w7.cell? ⟨bJ, 2, none⟩ = some (.slice bU bf.length bT) := (az aY.out 2).trans rfl; have BM : w7.cell? ⟨bJ, 3, none⟩ = some (.int .i64 dH) := (az aY.out 3).trans rfl; have BL : w7.cell? ⟨bJ, 4, none⟩ = some (.int .i64 dL) := (az aY.out 4).trans rfl; have BK : w7.cell? ⟨bJ, 5, none⟩ = some (.slice ig bW.length gK) := (az aY.out 5).trans rfl; have yE := ay aY.out 0; have yD := ay aY.out 1; have yC := ay aY.out 2; have BG := ay aY.out 3; have BD := ay aY.out 4; have BC := ay aY.out 5) | (go_at_call 77; (with_reducible refine (aI.calls k dH dL _ _ bW t226 _ ?gm ?f_ A3.out).mono ?_); (case gm => repeat (first | exact (Kd.fQ r_.out HB.out) | (with_reducible refine Kd.gZ ?_ _) | (with_reducible refine Kd.gY ?_ _) | (with_reducible refine Kd.jh ?_))); (case f_ => exact EJ.out); rintro e w9 ⟨rfl, hb⟩; have bK := aj.mk (bI (g := bJ) (o := .cells #[.int .i64 aZ, .int .i64 bn, .slice bU bf.length bT, .int .i64 dH, .int .i64 dL, .slice ig bW.length gK] 31 (0, 0)) (by (with_reducible repeat (first | refine aC ?_ _ | refine aH ?_ | refine aG ?_ _)); exact aY.out) hb); have dW := aj.mk (aV (by repeat (first | (with_reducible first | exact HB.out | apply ak | apply ah | apply au | refine aA ?_ lC.out) | exact HB.out)) hb); clear aY; clear HB; have aY := bK; have HB := dW; clear bK dW; (try clear hb); (try clear hb2); (try clear hk); (try clear hi); have mV : w9.cell? ⟨bJ, 0, none⟩ = some (.int .i64 aZ) := (az aY.out 0).trans rfl; have mQ : w9.cell? ⟨bJ, 1, none⟩ = some (.int .i64 bn) := (az aY.out 1).trans rfl; have mP : w9.cell? ⟨bJ, 2, none⟩ = some (.slice bU bf.length bT) := (az aY.out 2).trans rfl; have qw : w9.cell? ⟨bJ, 3, none⟩ = some (.int .i64 dH) := (az aY.out 3).trans rfl; have qp : w9.cell? ⟨bJ, 4, none⟩ = some (.int .i64 dL) := (az aY.out 4).trans rfl; have qo : w9.cell? ⟨bJ, 5, none⟩ = some (.slice ig bW.length gK) := (az aY.out 5).trans rfl; have mO := ay aY.out 0; have mM := ay aY.out 1; have mJ := ay aY.out 2; have ql := ay aY.out 3; have qj := ay aY.out 4; have qi := ay aY.out 5))
 repeat (go_quiet (first | ((with_reducible refine dI (N := 1) rfl ?_); refine cZ ?hg (N := 1) ?hd (cs := #[.int .i64 aZ, .int .i64 bn, .slice bU bf.length bT, .int .i64 dH, .int .i64 dL, .slice ig bW.length gK]) (t := 31) ?hr ?_; (case hd => rfl); (case hg => rfl); (case hr => first | (go_simp; done) | (go_simp; rfl)); intro bJ hg w5 hbox hb; have bK := aj.mk (aV (by repeat (first | (with_reducible first | exact HB.out | apply ak | apply ah | apply au) | exact HB.out)) hb); have dW := aj.mk (hbox); have eG := aj.mk ((by rw [hg]; exact (bz (by repeat (first | (with_reducible first | exact HB.out | apply ak | apply ah | apply au) | exact HB.out))) : w.heap.size ≤ bJ)); have fP := aj.mk ((by rw [hg]; exact (bz (by repeat (first | (with_reducible first | exact HB.out | apply ak | apply ah | apply au) | exact HB.out))) : w.heap.size ≤ bJ)); clear HB; have HB := bK; have aY := dW; have Wu := eG; have lC := fP; clear bK dW eG fP; clear hb hbox hg; have um : w5.cell? ⟨bJ, 0, none⟩ = some (.int .i64 aZ) := (az aY.out 0).trans rfl; have uk : w5.cell? ⟨bJ, 1, none⟩ = some (.int .i64 bn) := (az aY.out 1).trans rfl; have wV : w5.cell? ⟨bJ, 2, none⟩ = some (.slice bU bf.length bT) := (az aY.out 2).trans rfl; have BQ : w5.cell? ⟨bJ, 3, none⟩ = some (.int .i64 dH) := (az aY.out 3).trans rfl; have BP : w5.cell? ⟨bJ, 4, none⟩ = some (.int .i64 dL) := (az aY.out 4).trans rfl; have BO : w5.cell? ⟨bJ, 5, none⟩ = some (.slice ig bW.length gK) := (az aY.out 5).trans rfl; have ug := ay aY.out 0; have uf := ay aY.out 1; have wU := ay aY.out 2; have BJ := ay aY.out 3; have BI := ay aY.out 4; have BH := ay aY.out 5) | (go_at_call 77; (with_reducible refine (aI.calls k aZ bn _ _ bf t225 _ ?gm ?f_ A2.out).mono ?_); (case gm => repeat (first | exact (Kd.fQ lY.out HB.out) | (with_reducible refine Kd.gZ ?_ _) | (with_reducible refine Kd.gY ?_ _) | (with_reducible refine Kd.jh ?_))); (case f_ => exact oq.out); rintro e w7 ⟨rfl, hb⟩; have bK := aj.mk (bI (g := bJ) (o := .cells #[.int .i64 aZ, .int .i64 bn, .slice bU bf.length bT, .int .i64 dH, .int .i64 dL, .slice ig bW.length gK] 31 (0, 0)) (by (with_reducible repeat (first | refine aC ?_ _ | refine aH ?_ | refine aG ?_ _)); exact aY.out) hb); have dW := aj.mk (aV (by repeat (first | (with_reducible first | exact HB.out | apply ak | apply ah | apply au | refine aA ?_ lC.out) | exact HB.out)) hb); clear aY; clear HB; have aY := bK; have HB := dW; clear bK dW; (try clear hb); (try clear hb2); (try clear hk); (try clear hi); have yI : w7.cell? ⟨bJ, 0, none⟩ = some (.int .i64 aZ) := (az aY.out 0).trans rfl; have yH : w7.cell? ⟨bJ, 1, none⟩ = some (.int .i64 bn) := (az aY.out 1).trans rfl; have yG : w7.cell? ⟨bJ, 2, none⟩ = some (.slice bU bf.length bT) := (az aY.out 2).trans rfl; have BM : w7.cell? ⟨bJ, 3, none⟩ = some (.int .i64 dH) := (az aY.out 3).trans rfl; have BL : w7.cell? ⟨bJ, 4, none⟩ = some (.int .i64 dL) := (az aY.out 4).trans rfl; have BK : w7.cell? ⟨bJ, 5, none⟩ = some (.slice ig bW.length gK) := (az aY.out 5).trans rfl; have yE := ay aY.out 0; have yD := ay aY.out 1; have yC := ay aY.out 2; have BG := ay aY.out 3; have BD := ay aY.out 4; have BC := ay aY.out 5) | (go_at_call 77; (with_reducible refine (aI.calls k dH dL _ _ bW t226 _ ?gm ?f_ A3.out).mono ?_); (case gm => repeat (first | exact (Kd.fQ r_.out HB.out) | (with_reducible refine Kd.gZ ?_ _) | (with_reducible refine Kd.gY ?_ _) | (with_reducible refine Kd.jh ?_))); (case f_ => exact EJ.out); rintro e w9 ⟨rfl, hb⟩; have bK := aj.mk (bI (g := bJ) (o := .cells #[.int .i64 aZ, .int .i64 bn, .slice bU bf.length bT, .int .i64 dH, .int .i64 dL, .slice ig bW.length gK] 31 (0, 0)) (by (with_reducible repeat (first | refine aC ?_ _ | refine aH ?_ | refine aG ?_ _)); exact aY.out) hb); have dW := aj.mk (aV (by repeat (first | (with_reducible first | exact HB.out | apply ak | apply ah | apply au | refine aA ?_ lC.out) | exact HB.out)) hb); clear aY; clear HB; have aY := bK; have HB := dW; clear bK dW; (try clear hb); (try clear hb2); (try clear hk); (try clear hi); have mV : w9.cell? ⟨bJ, 0, none⟩ = some (.int .i64 aZ) := (az aY.out 0).trans rfl; have mQ : w9.cell? ⟨bJ, 1, none⟩ = some (.int .i64 bn) := (az aY.out 1).trans rfl; have mP : w9.cell? ⟨bJ, 2, none⟩ = some (.slice bU bf.length bT) := (az aY.out 2).trans rfl; have qw : w9.cell? ⟨bJ, 3, none⟩ = some (.int .i64 dH) := (az aY.out 3).trans rfl; have qp : w9.cell? ⟨bJ, 4, none⟩ = some (.int .i64 dL) := (az aY.out 4).trans rfl; have qo : w9.cell? ⟨bJ, 5, none⟩ = some (.slice ig bW.length gK) := (az aY.out 5).trans rfl; have mO := ay aY.out 0; have mM := ay aY.out 1; have mJ := ay aY.out 2; have ql := ay aY.out 3; have qj := ay aY.out 4; have qi := ay aY.out 5)); go_upto_region 4 with (first | ((with_reducible refine dI (N := 1) rfl ?_); refine cZ ?hg (N := 1) ?hd (cs := #[.int .i64 aZ, .int .i64 bn, .slice bU bf.length bT, .int .i64 dH, .int .i64 dL, .slice ig bW.length gK]) (t := 31) ?hr ?_; (case hd => rfl); (case hg => rfl); (case hr => first | (go_simp; done) | (go_simp; rfl)); intro bJ hg w5 hbox hb; have bK := aj.mk (aV (by repeat (first | (with_reducible first | exact HB.out | apply ak | apply ah | apply au) | exact HB.out)) hb); have dW := aj.mk (hbox); have eG := aj.mk ((by rw [hg]; exact (bz (by repeat (first | (with_reducible first | exact HB.out | apply ak | apply ah | apply au) | exact HB.out))) : w.heap.size ≤ bJ)); have fP := aj.mk ((by rw [hg]; exact (bz (by repeat (first | (with_reducible first | exact HB.out | apply ak | apply ah | apply au) | exact HB.out))) : w.heap.size ≤ bJ)); clear HB; have HB := bK; have aY := dW; have Wu := eG; have lC := fP; clear bK dW eG fP; clear hb hbox hg; have um : w5.cell? ⟨bJ, 0, none⟩ = some (.int .i64 aZ) := (az aY.out 0).trans rfl; have uk : w5.cell? ⟨bJ, 1, none⟩ = some (.int .i64 bn) := (az aY.out 1).trans rfl; have wV : w5.cell? ⟨bJ, 2, none⟩ = some (.slice bU bf.length bT) := (az aY.out 2).trans rfl; have BQ : w5.cell? ⟨bJ, 3, none⟩ = some (.int .i64 dH) := (az aY.out 3).trans rfl; have BP : w5.cell? ⟨bJ, 4, none⟩ = some (.int .i64 dL) := (az aY.out 4).trans rfl; have BO : w5.cell? ⟨bJ, 5, none⟩ = some (.slice ig bW.length gK) := (az aY.out 5).trans rfl; have ug := ay aY.out 0; have uf := ay aY.out 1; have wU := ay aY.out 2; have BJ := ay aY.out 3; have BI := ay aY.out 4; have BH := ay aY.out 5) | (go_at_call 77; (with_reducible refine (aI.calls k aZ bn _ _ bf t225 _ ?gm ?f_ A2.out).mono ?_); (case gm => repeat (first | exact (Kd.fQ lY.out HB.out) | (with_reducible refine Kd.gZ ?_ _) | (with_reducible refine Kd.gY ?_ _) | (with_reducible refine Kd.jh ?_))); (case f_ => exact oq.out); rintro e w7 ⟨rfl, hb⟩; have bK := aj.mk (bI (g := bJ) (o := .cells #[.int .i64 aZ, .int .i64 bn, .slice bU bf.length bT, .int .i64 dH, .int .i64 dL, .slice ig bW.length gK] 31 (0, 0)) (by (with_reducible repeat (first | refine aC ?_ _ | refine aH ?_ | refine aG ?_ _)); exact aY.out) hb); have dW := aj.mk (aV (by repeat (first | (with_reducible first | exact HB.out | apply ak | apply ah | apply au | refine aA ?_ lC.out) | exact HB.out)) hb); clear aY; clear HB; have aY := bK; have HB := dW; clear bK dW; (try clear hb); (try clear hb2); (try clear hk); (try clear hi); have yI : w7.cell? ⟨bJ, 0, none⟩ = some (.int .i64 aZ) := (az aY.out 0).trans rfl; have yH : w7.cell? ⟨bJ, 1, none⟩ = some (.int .i64 bn) := (az aY.out 1).trans rfl; have yG : w7.cell? ⟨bJ, 2, none⟩ = some (.slice bU bf.length bT) := (az aY.out 2).trans rfl; have BM : w7.cell? ⟨bJ, 3, none⟩ = some (.int .i64 dH) := (az aY.out 3).trans rfl; have BL : w7.cell? ⟨bJ, 4, none⟩ = some (.int .i64 dL) := (az aY.out 4).trans rfl; have BK : w7.cell? ⟨bJ, 5, none⟩ = some (.slice ig bW.length gK) := (az aY.out 5).trans rfl; have yE := ay aY.out 0; have yD := ay aY.out 1; have yC := ay aY.out 2; have BG := ay aY.out 3; have BD := ay aY.out 4; have BC := ay aY.out 5) | (go_at_call 77; (with_reducible refine (aI.calls k dH dL _ _ bW t226 _ ?gm ?f_ A3.out).mono ?_); (case gm => repeat (first | exact (Kd.fQ r_.out HB.out) | (with_reducible refine Kd.gZ ?_ _) | (with_reducible refine Kd.gY ?_ _) | (with_reducible refine Kd.jh ?_))); (case f_ => exact EJ.out); rintro e w9 ⟨rfl, hb⟩; have bK := aj.mk (bI (g := bJ) (o := .cells #[.int .i64 aZ, .int .i64 bn, .slice bU bf.length bT, .int .i64 dH, .int .i64 dL, .slice ig bW.length gK] 31 (0, 0)) (by (with_reducible repeat (first | refine aC ?_ _ | refine aH ?_ | refine aG ?_ _)); exact aY.out) hb); have dW := aj.mk (aV (by repeat (first | (with_reducible first | exact HB.out | apply ak | apply ah | apply au | refine aA ?_ lC.out) | exact HB.out)) hb); clear aY; clear HB; have aY := bK; have HB := dW; clear bK dW; (try clear hb); (try clear hb2); (try clear hk); (try clear hi); have mV : w9.cell? ⟨bJ, 0, none⟩ = some (.int .i64 aZ) := (az aY.out 0).trans rfl; have mQ : w9.cell? ⟨bJ, 1, none⟩ = some (.int .i64 bn) := (az aY.out 1).trans rfl; have mP : w9.cell? ⟨bJ, 2, none⟩ = some (.slice bU bf.length bT) := (az aY.out 2).trans rfl; have qw : w9.cell? ⟨bJ, 3, none⟩ = some (.int .i64 dH) := (az aY.out 3).trans rfl; have qp : w9.cell? ⟨bJ, 4, none⟩ = some (.int .i64 dL) := (az aY.out 4).trans rfl; have qo : w9.cell? ⟨bJ, 5, none⟩ = some (.slice ig bW.length gK) := (az aY.out 5).trans rfl; have mO := ay aY.out 0; have mM := ay aY.out 1; have mJ := ay aY.out 2; have ql := ay aY.out 3; have qj := ay aY.out 4; have qi := ay aY.out 5)))
 (try simp only [Act.put, List.setIfInBounds_toArray, List.set_cons_zero, List.set_cons_succ])
 go_cut [42] (fun v42 wc => ∃ (kq : Nat) (LD : Bool), v42 = .bool LD ∧ aj (aN.j0 kq aZ LD aZ bn bf dH dL bW = some r) ∧ aj (kq ≤ k) ∧ aj (wc.heap[bJ]? = some (.cells #[.int .i64 aZ, .int .i64 bn, (.slice bU bf.length bT), .int .i64 dH, .int .i64 dL, (.slice ig bW.length gK)] 31 (0, 0))) ∧ aj (Below w.heap.size w wc))
 case first =>
  have H := Yl.out
  clear Yl
  by_cases c11 : t225 = true
  · subst c11
    rw [if_pos rfl] at H
    by_cases c12 : t226 = true
    · subst c12
      rw [if_pos rfl] at H
      by_cases c13 : bn = 1
      · rw [if_pos c13] at H
        have wM : (bn == 1) = true := beq_iff_eq.mpr c13
        have MO : (bn != 1) = false := bne_eq_false_iff_eq.mpr c13
        clear c13
        (first | rw [wM] | (simp only [dB, dD]; rw [wM]) | skip)
        by_cases c14 : dH = aZ
        · rw [if_pos c14] at H
          have n_ : (dH == aZ) = true := beq_iff_eq.mpr c14
          have rZ : (dH != aZ) = false := bne_eq_false_iff_eq.mpr c14
          clear c14
          have H' := aj.mk H
          clear H
          have vN : w9.cell? ⟨bJ, 0, none⟩ = some (.int .i64 aZ) := (az aY.out 0).trans rfl
          have vM : w9.cell? ⟨bJ, 1, none⟩ = some (.int .i64 bn) := (az aY.out 1).trans rfl
          have vK : w9.cell? ⟨bJ, 2, none⟩ = some (.slice bU bf.length bT) := (az aY.out 2).trans rfl
          have G8 : w9.cell? ⟨bJ, 3, none⟩ = some (.int .i64 dH) := (az aY.out 3).trans rfl
          have GZ : w9.cell? ⟨bJ, 4, none⟩ = some (.int .i64 dL) := (az aY.out 4).trans rfl
          have GY : w9.cell? ⟨bJ, 5, none⟩ = some (.slice ig bW.length gK) := (az aY.out 5).trans rfl
          have vG := ay aY.out 0
          have vF := ay aY.out 1
          have vC := ay aY.out 2
          have Gp := ay aY.out 3
          have Gn := ay aY.out 4
          have Gm := ay aY.out 5
          go_wp2
          repeat (go_quiet (fail); try go_wp2)
          go_meet
          case rel => exact ⟨_, ((dL != aZ)), (by first | rfl | (simp; done) | (simp [*]; done)), H', ⟨by first | omega | exact Nat.le_refl _⟩, ⟨by (with_reducible repeat (first | refine aC ?_ _ | refine aH ?_ | refine aG ?_ _)); exact aY.out⟩, ⟨by repeat (first | (with_reducible first | exact HB.out | apply ak | apply ah | apply au | refine aA ?_ lC.out) | exact HB.out)⟩⟩
        · rw [if_neg c14] at H
          have n_ : (dH == aZ) = false := beq_eq_false_iff_ne.mpr c14
          have rZ : (dH != aZ) = true := bne_iff_ne.mpr c14
          have H' := aj.mk H
          clear H
          have vJ : w9.cell? ⟨bJ, 0, none⟩ = some (.int .i64 aZ) := (az aY.out 0).trans rfl
          have vI : w9.cell? ⟨bJ, 1, none⟩ = some (.int .i64 bn) := (az aY.out 1).trans rfl
          have vH : w9.cell? ⟨bJ, 2, none⟩ = some (.slice bU bf.length bT) := (az aY.out 2).trans rfl
          have GV : w9.cell? ⟨bJ, 3, none⟩ = some (.int .i64 dH) := (az aY.out 3).trans rfl
          have GU : w9.cell? ⟨bJ, 4, none⟩ = some (.int .i64 dL) := (az aY.out 4).trans rfl
          have GR : w9.cell? ⟨bJ, 5, none⟩ = some (.slice ig bW.length gK) := (az aY.out 5).trans rfl
          have vw := ay aY.out 0
          have u_ := ay aY.out 1
          have uZ := ay aY.out 2
          have Gl := ay aY.out 3
          have Gj := ay aY.out 4
          have Gi := ay aY.out 5
          go_wp2
          repeat (go_quiet (fail); try go_wp2)
          go_meet
          case rel => exact ⟨_, (true), (by first | rfl | (simp; done) | (simp [*]; done)), H', ⟨by first | omega | exact Nat.le_refl _⟩, ⟨by (with_reducible repeat (first | refine aC ?_ _ | refine aH ?_ | refine aG ?_ _)); exact aY.out⟩, ⟨by repeat (first | (with_reducible first | exact HB.out | apply ak | apply ah | apply au | refine aA ?_ lC.out) | exact HB.out)⟩⟩
      · rw [if_neg c13] at H
        have wM : (bn == 1) = false := beq_eq_false_iff_ne.mpr c13
        have MO : (bn != 1) = true := bne_iff_ne.mpr c13
        (first | rw [wM] | (simp only [dB, dD]; rw [wM]) | skip)
        have H' := aj.mk H
        clear H
        have GM : w9.cell? ⟨bJ, 0, none⟩ = some (.int .i64 aZ) := (az aY.out 0).trans rfl
        have GK : w9.cell? ⟨bJ, 1, none⟩ = some (.int .i64 bn) := (az aY.out 1).trans rfl
        have GI : w9.cell? ⟨bJ, 2, none⟩ = some (.slice bU bf.length bT) := (az aY.out 2).trans rfl
        have GH : w9.cell? ⟨bJ, 3, none⟩ = some (.int .i64 dH) := (az aY.out 3).trans rfl
        have Gz : w9.cell? ⟨bJ, 4, none⟩ = some (.int .i64 dL) := (az aY.out 4).trans rfl
        have Gy : w9.cell? ⟨bJ, 5, none⟩ = some (.slice ig bW.length gK) := (az aY.out 5).trans rfl
        have Gh := ay aY.out 0
        have Gg := ay aY.out 1
        have Gf := ay aY.out 2
        have F_ := ay aY.out 3
        have F9 := ay aY.out 4
        have F8 := ay aY.out 5
        go_wp2
        repeat (go_quiet (fail); try go_wp2)
        go_meet
        case rel => exact ⟨_, (true), (by first | rfl | (simp; done) | (simp [*]; done)), H', ⟨by first | omega | exact Nat.le_refl _⟩, ⟨by (with_reducible repeat (first | refine aC ?_ _ | refine aH ?_ | refine aG ?_ _)); exact aY.out⟩, ⟨by repeat (first | (with_reducible first | exact HB.out | apply ak | apply ah | apply au | refine aA ?_ lC.out) | exact HB.out)⟩⟩
    · replace c12 := Bool.eq_false_iff.mpr c12
      subst c12
      have H1 : (aN.j0 k aZ true aZ bn bf dH dL bW) = some r := by rw [if_neg (show ¬ (false = true) by decide)] at H; exact H
      clear H
      have H := H1
      clear H1
      have H' := aj.mk H
      clear H
      go_wp2
      repeat (go_quiet (fail); try go_wp2)
      go_meet
      case rel => exact ⟨_, (true), (by first | rfl | (simp; done) | (simp [*]; done)), H', ⟨by first | omega | exact Nat.le_refl _⟩, ⟨by (with_reducible repeat (first | refine aC ?_ _ | refine aH ?_ | refine aG ?_ _)); exact aY.out⟩, ⟨by repeat (first | (with_reducible first | exact HB.out | apply ak | apply ah | apply au | refine aA ?_ lC.out) | exact HB.out)⟩⟩
  · replace c11 := Bool.eq_false_iff.mpr c11
    subst c11
    have H1 : (aN.j0 k aZ true aZ bn bf dH dL bW) = some r := by rw [if_neg (show ¬ (false = true) by decide)] at H; exact H
    clear H
    have H := H1
    clear H1
    have H' := aj.mk H
    clear H
    go_wp2
    repeat (go_quiet (fail); try go_wp2)
    go_meet
    case rel => exact ⟨_, (true), (by first | rfl | (simp; done) | (simp [*]; done)), H', ⟨by first | omega | exact Nat.le_refl _⟩, ⟨by (with_reducible repeat (first | refine aC ?_ _ | refine aH ?_ | refine aG ?_ _)); exact aY.out⟩, ⟨by repeat (first | (with_reducible first | exact HB.out | apply ak | apply ah | apply au | refine aA ?_ lC.out) | exact HB.out)⟩⟩
 case rest =>
  clear Yl
  try clear c1
  try clear p2
  try clear c3
  try clear c11
  try clear c12
  try clear c13
  try clear wM
  try clear MO
  try clear c14
  try clear n_
  try clear rZ
  try clear mV
  try clear mQ
  try clear mP
  try clear qw
  try clear qp
  try clear qo
  try clear vN
  try clear vM
  try clear vK
  try clear G8
  try clear GZ
  try clear GY
  try clear vJ
  try clear vI
  try clear vH
  try clear GV
  try clear GU
  try clear GR
  try clear GM
  try clear GK
  try clear GI
  try clear GH
  try clear Gz
  try clear Gy
  try clear um
  try clear uk
  try clear wV
  try clear BQ
  try clear BP
  try clear BO
  try clear yI
  try clear yH
  try clear yG
  try clear BM
  try clear BL
  try clear BK
  try clear mO
  try clear mM
  try clear mJ
  try clear ql
  try clear qj
  try clear qi
  try clear vG
  try clear vF
  try clear vC
  try clear Gp
  try clear Gn
  try clear Gm
  try clear vw
  try clear u_
  try clear uZ
  try clear Gl
  try clear Gj
  try clear Gi
  try clear Gh
  try clear Gg
  try clear Gf
  try clear F_
  try clear F9
  try clear F8
  try clear ug
  try clear uf
  try clear wU
  try clear BJ
  try clear BI
  try clear BH
  try clear yE
  try clear yD
  try clear yC
  try clear BG
  try clear BD
  try clear BC
  obtain ⟨kq, LD, rfl, HA, HJ3, aY, HB⟩ := hcut
  cases kq with
  | zero => exact absurd HA.out (by simp [aN.j0])
  | succ kj3 =>
    have H := HA.out
    clear HA
    simp only [aN.j0] at H
    by_cases c18 : LD = true
    · subst c18
      rw [if_pos rfl] at H
      obtain rfl := Option.some.inj H
      go_wp2
      repeat (go_quiet (fail); try go_wp2)
      go_ret
      exact ⟨by first | rfl | (simp [aU, aT] <;> rfl) | (simp [*, aU, aT] <;> rfl), by repeat (first | (with_reducible first | exact HB.out | apply ak | apply ah | apply au | refine aA ?_ lC.out) | exact HB.out)⟩
    · replace c18 := Bool.eq_false_iff.mpr c18
      subst c18
      have H1 : (aN.l0 kj3 aZ 0 aZ bn bf dH dL bW) = some r := by rw [if_neg (show ¬ (false = true) by decide)] at H; exact H
      clear H
      have H := H1
      clear H1
      have H' := aj.mk H
      clear H
      go_wp2
      repeat (go_quiet (fail); try go_wp2)
      go_loopg [6] kj3 (fun kq v6 w' => ∃ (nU : Int), v6 = .int .i64 nU ∧ aj (aN.l0 kq aZ nU aZ bn bf dH dL bW = some r) ∧ aj (kq ≤ kj3) ∧ aj (w'.heap[bJ]? = some (.cells #[.int .i64 aZ, .int .i64 bn, (.slice bU bf.length bT), .int .i64 dH, .int .i64 dL, (.slice ig bW.length gK)] 31 (0, 0))) ∧ aj (Below w.heap.size w w'))
      case atStart => exact ⟨(0), (by first | rfl | (simp; done) | (simp [*]; done)), H', ⟨Nat.le_refl _⟩, ⟨by (with_reducible repeat (first | refine aC ?_ _ | refine aH ?_ | refine aG ?_ _)); exact aY.out⟩, ⟨by repeat (first | (with_reducible first | exact HB.out | apply ak | apply ah | apply au | refine aA ?_ lC.out) | exact HB.out)⟩⟩
      case round =>
       clear H'
       try clear c1
       try clear p2
       try clear c3
       try clear c11
       try clear c12
       try clear c13
       try clear wM
       try clear MO
       try clear c14
       try clear n_
       try clear rZ
       try clear c18
       try clear mV
       try clear mQ
       try clear mP
       try clear qw
       try clear qp
       try clear qo
       try clear vN
       try clear vM
       try clear vK
       try clear G8
       try clear GZ
       try clear GY
       try clear vJ
       try clear vI
       try clear vH
       try clear GV
       try clear GU
       try clear GR
       try clear GM
       try clear GK
       try clear GI
       try clear GH
       try clear Gz
       try clear Gy
       try clear um
       try clear uk
       try clear wV
       try clear BQ
       try clear BP
       try clear BO
       try clear yI
       try clear yH
       try clear yG
       try clear BM
       try clear BL
       try clear BK
       try clear mO
       try clear mM
       try clear mJ
       try clear ql
       try clear qj
       try clear qi
       try clear vG
       try clear vF
       try clear vC
       try clear Gp
       try clear Gn
       try clear Gm
       try clear vw
       try clear u_
       try clear uZ
       try clear Gl
       try clear Gj
       try clear Gi
       try clear Gh
       try clear Gg
       try clear Gf
       try clear F_
       try clear F9
       try clear F8
       try clear ug
       try clear uf
       try clear wU
       try clear BJ
       try clear BI
       try clear BH
       try clear yE
       try clear yD
       try clear yC
       try clear BG
       try clear BD
       try clear BC
       try clear p2
       obtain ⟨nU, rfl, HA, Ie, aY, HB⟩ := hrel
       cases gk with
       | zero => exact absurd HA.out (by simp [aN.l0])
       | succ k2 =>
         have H := HA.out
         clear HA
         simp only [aN.l0] at H
         by_cases c19 : nU < aZ
         · rw [if_pos c19] at H
           have Q5 : decide (nU < aZ) = true := decide_eq_true c19
           clear c19
           obtain ⟨tN, IZ⟩ : ∃ j_ : Int, (wrap64 ((wrap64 (nU * aZ)) + nU)) = j_ := ⟨_, rfl⟩
           replace H : (if 0 ≤ (tN) then (if (tN) < (bW.length : Int) then (if (rd bW (tN)) < 0 then (some false) else (aN.l1 k2 aZ nU 0 aZ bn bf dH dL bW)) else (none)) else (none)) = some r := by first | (rw [IZ] at H; exact H) | (simp only [IZ] at H ⊢; exact H)
           have aeR : (IntKind.i64.wrap ((wrap64 (nU * aZ)) + nU)) = tN := (dB _).trans IZ
           by_cases c21 : 0 ≤ (tN)
           · rw [if_pos c21] at H
             have qL : decide (0 ≤ (tN)) = true := decide_eq_true c21
             clear c21
             by_cases Ib : (tN) < (bW.length : Int)
             · rw [if_pos Ib] at H
               have Z7 : decide ((tN) < (bW.length : Int)) = true := decide_eq_true Ib
               clear Ib
               by_cases c23 : (rd bW (tN)) < 0
               · rw [if_pos c23] at H
                 have CJ : decide ((rd bW (tN)) < 0) = true := decide_eq_true c23
                 clear c23
                 obtain rfl := Option.some.inj H
                 have Gx : wr.cell? ⟨bJ, 0, none⟩ = some (.int .i64 aZ) := (az aY.out 0).trans rfl
                 have Gw : wr.cell? ⟨bJ, 1, none⟩ = some (.int .i64 bn) := (az aY.out 1).trans rfl
                 have Gv : wr.cell? ⟨bJ, 2, none⟩ = some (.slice bU bf.length bT) := (az aY.out 2).trans rfl
                 have UK : wr.cell? ⟨bJ, 3, none⟩ = some (.int .i64 dH) := (az aY.out 3).trans rfl
                 have UJ : wr.cell? ⟨bJ, 4, none⟩ = some (.int .i64 dL) := (az aY.out 4).trans rfl
                 have UI : wr.cell? ⟨bJ, 5, none⟩ = some (.slice ig bW.length gK) := (az aY.out 5).trans rfl
                 have F7 := ay aY.out 0
                 have FY := ay aY.out 1
                 have FW := ay aY.out 2
                 have Ul := ay aY.out 3
                 have Uk := ay aY.out 4
                 have Uj := ay aY.out 5
                 have IA : 0 ≤ ((tN) : Int) := of_decide_eq_true (by first | (with_reducible assumption) | assumption)
                 have Iz : (tN) < (bW.length : Int) := of_decide_eq_true (by first | (with_reducible assumption) | assumption)
                 obtain ⟨zG, e227, qh⟩ := Kd.kH r_.out (tN) IA Iz
                 cases e227
                 replace qh := (HB.out.cell (World.block_lt_of_cell? w _ qh)).trans qh
                 replace IA := eq_true IA
                 replace Iz := eq_true Iz
                 go_wp2
                 repeat (go_quiet (fail); try go_wp2)
                 go_ret
                 exact ⟨by first | rfl | (simp [aU, aT] <;> rfl) | (simp only [← IZ]; first | rfl | (simp [aU, aT] <;> rfl)) | (simp [*, aU, aT] <;> rfl), by repeat (first | (with_reducible first | exact HB.out | apply ak | apply ah | apply au | refine aA ?_ lC.out) | exact HB.out)⟩
               · rw [if_neg c23] at H
                 have CJ : decide ((rd bW (tN)) < 0) = false := decide_eq_false c23
                 clear c23
                 have H' := aj.mk H
                 clear H
                 have UH : wr.cell? ⟨bJ, 0, none⟩ = some (.int .i64 aZ) := (az aY.out 0).trans rfl
                 have UG : wr.cell? ⟨bJ, 1, none⟩ = some (.int .i64 bn) := (az aY.out 1).trans rfl
                 have UF : wr.cell? ⟨bJ, 2, none⟩ = some (.slice bU bf.length bT) := (az aY.out 2).trans rfl
                 have UE : wr.cell? ⟨bJ, 3, none⟩ = some (.int .i64 dH) := (az aY.out 3).trans rfl
                 have UD : wr.cell? ⟨bJ, 4, none⟩ = some (.int .i64 dL) := (az aY.out 4).trans rfl
                 have UC : wr.cell? ⟨bJ, 5, none⟩ = some (.slice ig bW.length gK) := (az aY.out 5).trans rfl
                 have Ui := ay aY.out 0
                 have Uh := ay aY.out 1
                 have Ug := ay aY.out 2
                 have Uf := ay aY.out 3
                 have Ue := ay aY.out 4
                 have Ud := ay aY.out 5
                 have IA : 0 ≤ ((tN) : Int) := of_decide_eq_true (by first | (with_reducible assumption) | assumption)
                 have Iz : (tN) < (bW.length : Int) := of_decide_eq_true (by first | (with_reducible assumption) | assumption)
                 obtain ⟨zG, e227, qh⟩ := Kd.kH r_.out (tN) IA Iz
                 cases e227
                 replace qh := (HB.out.cell (World.block_lt_of_cell? w _ qh)).trans qh
                 replace IA := eq_true IA
                 replace Iz := eq_true Iz
                 go_wp2
                 repeat (go_quiet (fail); try go_wp2)
                 go_loopg [7] k2 (fun kq v7 w' => ∃ (qE : Int), v7 = .int .i64 qE ∧ aj (aN.l1 kq aZ nU qE aZ bn bf dH dL bW = some r) ∧ aj (kq ≤ k2) ∧ aj (w'.heap[bJ]? = some (.cells #[.int .i64 aZ, .int .i64 bn, (.slice bU bf.length bT), .int .i64 dH, .int .i64 dL, (.slice (some zG) bW.length gK)] 31 (0, 0))) ∧ aj (Below w.heap.size w w'))
                 case atStart => exact ⟨(0), (by first | rfl | (simp; done) | (simp [*]; done)), H', ⟨Nat.le_refl _⟩, ⟨by (with_reducible repeat (first | refine aC ?_ _ | refine aH ?_ | refine aG ?_ _)); exact aY.out⟩, ⟨by repeat (first | (with_reducible first | exact HB.out | apply ak | apply ah | apply au | refine aA ?_ lC.out) | exact HB.out)⟩⟩
                 case round =>
                  clear H'
                  try clear c1
                  try clear c2
                  try clear p2
                  try clear q2
                  try clear hx2
                  try clear c3
                  try clear p6
                  try clear c11
                  try clear c12
                  try clear c13
                  try clear wM
                  try clear MO
                  try clear c14
                  try clear n_
                  try clear rZ
                  try clear c18
                  try clear c19
                  try clear Q5
                  try clear c21
                  try clear qL
                  try clear Ib
                  try clear Z7
                  try clear p22
                  try clear q22
                  try clear ajm
                  try clear c23
                  try clear CJ
                  try clear mV
                  try clear mQ
                  try clear mP
                  try clear qw
                  try clear qp
                  try clear qo
                  try clear vN
                  try clear vM
                  try clear vK
                  try clear G8
                  try clear GZ
                  try clear GY
                  try clear vJ
                  try clear vI
                  try clear vH
                  try clear GV
                  try clear GU
                  try clear GR
                  try clear GM
                  try clear GK
                  try clear GI
                  try clear GH
                  try clear Gz
                  try clear Gy
                  try clear Gx
                  try clear Gw
                  try clear Gv
                  try clear UK
                  try clear UJ
                  try clear UI
                  try clear UH
                  try clear UG
                  try clear UF
                  try clear UE
                  try clear UD
                  try clear UC
                  try clear um
                  try clear uk
                  try clear wV
                  try clear BQ
                  try clear BP
                  try clear BO
                  try clear yI
                  try clear yH
                  try clear yG
                  try clear BM
                  try clear BL
                  try clear BK
                  try clear mO
                  try clear mM
                  try clear mJ
                  try clear ql
                  try clear qj
                  try clear qi
                  try clear vG
                  try clear vF
                  try clear vC
                  try clear Gp
                  try clear Gn
                  try clear Gm
                  try clear vw
                  try clear u_
                  try clear uZ
                  try clear Gl
                  try clear Gj
                  try clear Gi
                  try clear Gh
                  try clear Gg
                  try clear Gf
                  try clear F_
                  try clear F9
                  try clear F8
                  try clear F7
                  try clear FY
                  try clear FW
                  try clear Ul
                  try clear Uk
                  try clear Uj
                  try clear Ui
                  try clear Uh
                  try clear Ug
                  try clear Uf
                  try clear Ue
                  try clear Ud
                  try clear ug
                  try clear uf
                  try clear wU
                  try clear BJ
                  try clear BI
                  try clear BH
                  try clear yE
                  try clear yD
                  try clear yC
                  try clear BG
                  try clear BD
                  try clear BC
                  try clear qh
                  try clear p2
                  try clear IA
                  try clear Iz
                  obtain ⟨qE, rfl, HA, HK3, aY, HB⟩ := hrel
                  cases gk with
                  | zero => exact absurd HA.out (by simp [aN.l1])
                  | succ k3 =>
                    have H := HA.out
                    clear HA
                    simp only [aN.l1] at H
                    by_cases Hz : qE < nU
                    · rw [if_pos Hz] at H
                      have zC : decide (qE < nU) = true := decide_eq_true Hz
                      clear Hz
                      obtain ⟨qJ, Me⟩ : ∃ j_ : Int, (wrap64 ((wrap64 (nU * aZ)) + qE)) = j_ := ⟨_, rfl⟩
                      replace H : (if 0 ≤ (qJ) then (if (qJ) < (bW.length : Int) then (if 0 ≤ (wrap64 ((wrap64 (qE * aZ)) + nU)) then (if (wrap64 ((wrap64 (qE * aZ)) + nU)) < (bW.length : Int) then (if (rd bW (qJ)) = (rd bW (wrap64 ((wrap64 (qE * aZ)) + nU))) then (aN.l1 k3 aZ nU (wrap64 (qE + 1)) aZ bn bf dH dL bW) else (some false)) else (none)) else (none)) else (none)) else (none)) = some r := by first | (rw [Me] at H; exact H) | (simp only [Me] at H ⊢; exact H)
                      have aeQ : (IntKind.i64.wrap ((wrap64 (nU * aZ)) + qE)) = qJ := (dB _).trans Me
                      by_cases c28 : 0 ≤ (qJ)
                      · rw [if_pos c28] at H
                        have V9 : decide (0 ≤ (qJ)) = true := decide_eq_true c28
                        clear c28
                        by_cases c29 : (qJ) < (bW.length : Int)
                        · rw [if_pos c29] at H
                          have ZZ : decide ((qJ) < (bW.length : Int)) = true := decide_eq_true c29
                          clear c29
                          obtain ⟨pF, wF⟩ : ∃ j_ : Int, (wrap64 ((wrap64 (qE * aZ)) + nU)) = j_ := ⟨_, rfl⟩
                          replace H : (if 0 ≤ (pF) then (if (pF) < (bW.length : Int) then (if (rd bW (qJ)) = (rd bW (pF)) then (aN.l1 k3 aZ nU (wrap64 (qE + 1)) aZ bn bf dH dL bW) else (some false)) else (none)) else (none)) = some r := by first | (rw [wF] at H; exact H) | (simp only [wF] at H ⊢; exact H)
                          have aeO : (IntKind.i64.wrap ((wrap64 (qE * aZ)) + nU)) = pF := (dB _).trans wF
                          by_cases c31 : 0 ≤ (pF)
                          · rw [if_pos c31] at H
                            have ZY : decide (0 ≤ (pF)) = true := decide_eq_true c31
                            clear c31
                            by_cases c32 : (pF) < (bW.length : Int)
                            · rw [if_pos c32] at H
                              have ahs : decide ((pF) < (bW.length : Int)) = true := decide_eq_true c32
                              clear c32
                              by_cases PK : (rd bW (qJ)) = (rd bW (pF))
                              · rw [if_pos PK] at H
                                have ZX : ((rd bW (qJ)) == (rd bW (pF))) = true := beq_iff_eq.mpr PK
                                have ZW : ((rd bW (qJ)) != (rd bW (pF))) = false := bne_eq_false_iff_eq.mpr PK
                                clear PK
                                have H' := aj.mk H
                                clear H
                                have ade : wr.cell? ⟨bJ, 0, none⟩ = some (.int .i64 aZ) := (az aY.out 0).trans rfl
                                have adb : wr.cell? ⟨bJ, 1, none⟩ = some (.int .i64 bn) := (az aY.out 1).trans rfl
                                have ada : wr.cell? ⟨bJ, 2, none⟩ = some (.slice bU bf.length bT) := (az aY.out 2).trans rfl
                                have ac_ : wr.cell? ⟨bJ, 3, none⟩ = some (.int .i64 dH) := (az aY.out 3).trans rfl
                                have ac9 : wr.cell? ⟨bJ, 4, none⟩ = some (.int .i64 dL) := (az aY.out 4).trans rfl
                                have ac8 : wr.cell? ⟨bJ, 5, none⟩ = some (.slice (some zG) bW.length gK) := (az aY.out 5).trans rfl
                                have acA := ay aY.out 0
                                have acz := ay aY.out 1
                                have acy := ay aY.out 2
                                have acw := ay aY.out 3
                                have acv := ay aY.out 4
                                have acu := ay aY.out 5
                                have J7 : 0 ≤ ((qJ) : Int) := of_decide_eq_true (by first | (with_reducible assumption) | assumption)
                                have JX : (qJ) < (bW.length : Int) := of_decide_eq_true (by first | (with_reducible assumption) | assumption)
                                obtain ⟨Rh, e228, rF⟩ := Kd.kH r_.out (qJ) J7 JX
                                obtain rfl : zG = Rh := (by injection e228)
                                replace rF := (HB.out.cell (World.block_lt_of_cell? w _ rF)).trans rF
                                replace J7 := eq_true J7
                                replace JX := eq_true JX
                                have J6 : 0 ≤ ((pF) : Int) := of_decide_eq_true (by first | (with_reducible assumption) | assumption)
                                have JW : (pF) < (bW.length : Int) := of_decide_eq_true (by first | (with_reducible assumption) | assumption)
                                obtain ⟨Rf, e229, rE⟩ := Kd.kH r_.out (pF) J6 JW
                                obtain rfl : zG = Rf := (by injection e229)
                                replace rE := (HB.out.cell (World.block_lt_of_cell? w _ rE)).trans rE
                                replace J6 := eq_true J6
                                replace JW := eq_true JW
                                go_wp2
                                repeat (go_quiet (fail); try go_wp2)
                                go_roundg k3
                                case measure => have := HJ3.out; have := Ie.out; have := HK3.out; omega
                                case rel => exact ⟨(wrap64 (qE + 1)), (by first | rfl | (simp; done) | (simp [*]; done)), H', ⟨by have := HJ3.out; have := Ie.out; have := HK3.out; omega⟩, ⟨by (with_reducible repeat (first | refine aC ?_ _ | refine aH ?_ | refine aG ?_ _)); exact aY.out⟩, ⟨by repeat (first | (with_reducible first | exact HB.out | apply ak | apply ah | apply au | refine aA ?_ lC.out) | exact HB.out)⟩⟩
                              · rw [if_neg PK] at H
                                have ZX : ((rd bW (qJ)) == (rd bW (pF))) = false := beq_eq_false_iff_ne.mpr PK
                                have ZW : ((rd bW (qJ)) != (rd bW (pF))) = true := bne_iff_ne.mpr PK
                                obtain rfl := Option.some.inj H
                                have ac7 : wr.cell? ⟨bJ, 0, none⟩ = some (.int .i64 aZ) := (az aY.out 0).trans rfl
                                have ac6 : wr.cell? ⟨bJ, 1, none⟩ = some (.int .i64 bn) := (az aY.out 1).trans rfl
                                have ac5 : wr.cell? ⟨bJ, 2, none⟩ = some (.slice bU bf.length bT) := (az aY.out 2).trans rfl
                                have ac4 : wr.cell? ⟨bJ, 3, none⟩ = some (.int .i64 dH) := (az aY.out 3).trans rfl
                                have ac3 : wr.cell? ⟨bJ, 4, none⟩ = some (.int .i64 dL) := (az aY.out 4).trans rfl
                                have ac2 : wr.cell? ⟨bJ, 5, none⟩ = some (.slice (some zG) bW.length gK) := (az aY.out 5).trans rfl
                                have acs := ay aY.out 0
                                have acr := ay aY.out 1
                                have acp := ay aY.out 2
                                have aco := ay aY.out 3
                                have acn := ay aY.out 4
                                have acm := ay aY.out 5
                                have J7 : 0 ≤ ((qJ) : Int) := of_decide_eq_true (by first | (with_reducible assumption) | assumption)
                                have JX : (qJ) < (bW.length : Int) := of_decide_eq_true (by first | (with_reducible assumption) | assumption)
                                obtain ⟨Rh, e228, rF⟩ := Kd.kH r_.out (qJ) J7 JX
                                obtain rfl : zG = Rh := (by injection e228)
                                replace rF := (HB.out.cell (World.block_lt_of_cell? w _ rF)).trans rF
                                replace J7 := eq_true J7
                                replace JX := eq_true JX
                                have J6 : 0 ≤ ((pF) : Int) := of_decide_eq_true (by first | (with_reducible assumption) | assumption)
                                have JW : (pF) < (bW.length : Int) := of_decide_eq_true (by first | (with_reducible assumption) | assumption)
                                obtain ⟨Rf, e229, rE⟩ := Kd.kH r_.out (pF) J6 JW
                                obtain rfl : zG = Rf := (by injection e229)
                                replace rE := (HB.out.cell (World.block_lt_of_cell? w _ rE)).trans rE
                                replace J6 := eq_true J6
                                replace JW := eq_true JW
                                go_wp2
                                repeat (go_quiet (fail); try go_wp2)
                                go_ret
                                exact ⟨by first | rfl | (simp [aU, aT] <;> rfl) | (simp only [← IZ, ← Me, ← wF]; first | rfl | (simp [aU, aT] <;> rfl)) | (simp [*, aU, aT] <;> rfl), by repeat (first | (with_reducible first | exact HB.out | apply ak | apply ah | apply au | refine aA ?_ lC.out) | exact HB.out)⟩
                            · rw [if_neg c32] at H
                              exact absurd H (by simp)
                          · rw [if_neg c31] at H
                            exact absurd H (by simp)
                        · rw [if_neg c29] at H
                          exact absurd H (by simp)
                      · rw [if_neg c28] at H
                        exact absurd H (by simp)
                    · rw [if_neg Hz] at H
                      have zC : decide (qE < nU) = false := decide_eq_false Hz
                      clear Hz
                      have H' := aj.mk H
                      clear H
                      go_wp2
                      repeat (go_quiet (fail); try go_wp2)
                      go_roundg k3
                      case measure => have := HJ3.out; have := Ie.out; have := HK3.out; omega
                      case rel => exact ⟨(wrap64 (nU + 1)), (by first | rfl | (simp; done) | (simp [*]; done)), H', ⟨by have := HJ3.out; have := Ie.out; have := HK3.out; omega⟩, ⟨by (with_reducible repeat (first | refine aC ?_ _ | refine aH ?_ | refine aG ?_ _)); exact aY.out⟩, ⟨by repeat (first | (with_reducible first | exact HB.out | apply ak | apply ah | apply au | refine aA ?_ lC.out) | exact HB.out)⟩⟩
             · rw [if_neg Ib] at H
               exact absurd H (by simp)
           · rw [if_neg c21] at H
             exact absurd H (by simp)
         · rw [if_neg c19] at H
           have Q5 : decide (nU < aZ) = false := decide_eq_false c19
           clear c19
           obtain rfl := Option.some.inj H
           go_wp2
           repeat (go_quiet (fail); try go_wp2)
           go_ret
           exact ⟨by first | rfl | (simp [aU, aT] <;> rfl) | (simp [*, aU, aT] <;> rfl), by repeat (first | (with_reducible first | exact HB.out | apply ak | apply ah | apply au | refine aA ?_ lC.out) | exact HB.out)⟩
end Go.Proofs.YtcfobekkchhbbaaGreat.PQ

