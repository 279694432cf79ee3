import Derived.Test.YtcfobekkchhbbaaGreatX2
import Derived.Test.YtcfobekkchhbbaaGreatX3
/- Joined and thinned by a program of this session's own (wip/pack2.py) out of its texts (wip/ of its repo); parts were laid by its own program (wip/print-patch.py over the kit's print) out of the translation; Lean checks all. -/
set_option maxRecDepth 100000
set_option maxHeartbeats 8000000
namespace Go.Proofs.YtcfobekkchhbbaaGreat.PQ
open Go.RowKit Go.Proofs.af.aK Go.Proofs.af.aV Go.Proofs.af.aW
attribute [local go_sem] iH iF jJ jI gU gK iG iE
set_option linter.unusedVariables false
set_option linter.unusedSimpArgs false
attribute [local go_sem high] UE
def gB.f (k : Nat) (aT : Int) (aZ : Int) (aX : List Int) (bH : Int) (bI : Int) (bu : List Int) : Option (Bool) := (oL.f aT aZ aX).bind fun KW => ((oL.f bH bI bu).bind fun Be => (if (KW.1 == Be.1 && (KW.2 == Be.2)) = true then ((eG.f k aX bu).bind fun t164 => (some t164)) else (some false)))
def gB.T1 : Bool × List (List Nat × List Nat) := (true, [([], []), ([0], [0]), ([], []), ([2, 1], [2]), ([1, 3], [1, 3]), ([4, 3], [4]), ([5], [5]), ([6, 5], [5, 6]), ([5], [5]), ([8, 5], [5, 8]), ([7, 9, 5, 5], [5, 7, 9]), ([5, 10], [5, 10]), ([11, 10, 0, 1, 2, 3, 4, 5, 6, 7, 8, 9, 10, 11], [11])])
def gB.B1 : List Nat := [0, 1, 0, 7, 15, 31, 63, 127, 63, 319, 1023, 2047, 4095]
theorem gB.VG : pV .any (opsOf Tryz.f81 1) = gB.T1 := by kernel_rfl
theorem gB.PO : sN gB.T1.2 gB.B1 = true := by kernel_rfl
theorem gB.calls (k : Nat) (aT : Int) (aZ : Int) (bK : Option Addr) (bJ : Nat) (aX : List Int) (bH : Int) (bI : Int) (eH : Option Addr) (eY : Nat) (bu : List Int) (r : Bool) (w : World) (iW : Kd.C (Kd.int .i64) w bK aX.length aX) (jy : aX.length ≤ bJ) (mZ : Kd.C (Kd.int .i64) w eH bu.length bu) (nO : bu.length ≤ eY) (h : gB.f k aT aZ aX bH bI bu = some r) :
 Calls Tryz.prog 81 #[.agg #[.int .i64 aT, .int .i64 aZ, .slice bK aX.length bJ], .agg #[.int .i64 bH, .int .i64 bI, .slice eH bu.length eY]] w fun e w' => e = .returned (.bool r) ∧ Below w.heap.size w w' := by
 have Ip := Tryz.underlying29; have mF := aj.mk iW; have oP := aj.mk jy; clear iW jy; have sH := aj.mk mZ; have wo := aj.mk nO; clear mZ nO; have HB := aj.mk (Below.refl w.heap.size w); have H : ((oL.f aT aZ aX).bind fun KW => ((oL.f bH bI bu).bind fun Be => (if (KW.1 == Be.1 && (KW.2 == Be.2)) = true then ((eG.f k aX bu).bind fun t164 => (some t164)) else (some false)))) = some r := h; clear h; replace H := Option.bind_eq_some_iff.mp H; obtain ⟨⟨t160, t161⟩, BC, H⟩ := H; replace H : ((oL.f bH bI bu).bind fun Be => (if (t160 == Be.1 && (t161 == Be.2)) = true then ((eG.f k aX bu).bind fun t164 => (some t164)) else (some false))) = some r := H; have A3 := aj.mk BC; clear BC; replace H := Option.bind_eq_some_iff.mp H; obtain ⟨⟨t162, t163⟩, Ll, H⟩ := H; replace H : (if (t160 == t162 && (t161 == t163)) = true then ((eG.f k aX bu).bind fun t164 => (some t164)) else (some false)) = some r := H; have A4 := aj.mk Ll; clear Ll
 by_cases c5 : (t160 == t162 && (t161 == t163)) = true
 · rw [if_pos c5] at H
   have BK : (t160 == t162 && (t161 == t163)) = true := c5
   (try (have ahH : decide (t160 = t162 && (t161 == t163)) = true := by simpa using c5))
   (try (have ahG : (t160 == t162 && (t161 == t163)) = true := by simpa using c5))
   clear c5; replace H := Option.bind_eq_some_iff.mp H; obtain ⟨t164, YQ, H⟩ := H; replace H : (some t164) = some r := H; have A6 := aj.mk YQ; clear YQ; obtain rfl := Option.some.inj H
   go_enter Tryz.func81, Tryz.ntmps81
   try go_wp2_with (first | ((with_reducible refine dG (N := 2) rfl ?_); refine cu ?hg (N := 2) ?hd (cs := #[.int .i64 aT, .int .i64 aZ, .slice bK aX.length bJ]) (t := 29) ?hr ?_; (case hd => rfl); (case hg => rfl); (case hr => first | (go_simp; done) | (go_simp; rfl)); intro jM hg w7 hbox hb; have bF := aj.mk (aP (by repeat (first | (with_reducible first | exact HB.out | apply ak | apply ah | apply au) | exact HB.out)) hb); have dS := aj.mk (hbox); have eF := aj.mk ((by rw [hg]; exact (bf (by repeat (first | (with_reducible first | exact HB.out | apply ak | apply ah | apply au) | exact HB.out))) : w.heap.size ≤ jM)); have fP := aj.mk ((by rw [hg]; exact (bf (by repeat (first | (with_reducible first | exact HB.out | apply ak | apply ah | apply au) | exact HB.out))) : w.heap.size ≤ jM)); clear HB; have HB := bF; have eu := dS; have adN := eF; have sJ := fP; clear bF dS eF fP; clear hb hbox hg) | ((with_reducible refine dG (N := 3) rfl ?_); refine cu ?hg (N := 3) ?hd (cs := #[.int .i64 bH, .int .i64 bI, .slice eH bu.length eY]) (t := 29) ?hr ?_; (case hd => rfl); (case hg => rfl); (case hr => first | (go_simp; done) | (go_simp; rfl)); intro nH hg w8 hbox hb; have bF := aj.mk (bz (g := jM) (o := .cells #[.int .i64 aT, .int .i64 aZ, .slice bK aX.length bJ] 29 (0, 0)) (by (with_reducible repeat (first | refine aB ?_ _ | refine aF ?_ | refine aC ?_ _)); exact eu.out) hb); have dS := aj.mk (aP (by repeat (first | (with_reducible first | exact HB.out | apply ak | apply ah | apply au | refine aA ?_ sJ.out) | exact HB.out)) hb); have eF := aj.mk (hbox); have fP := aj.mk ((by rw [hg]; exact (bf (by repeat (first | (with_reducible first | exact HB.out | apply ak | apply ah | apply au | refine aA ?_ sJ.out) | exact HB.out))) : w.heap.size ≤ nH)); have jT := aj.mk ((by rw [hg]; exact (bf (by repeat (first | (with_reducible first | exact HB.out | apply ak | apply ah | apply au | refine aA ?_ sJ.out) | exact HB.out))) : w.heap.size ≤ nH)); have ku := aj.mk ((by rw [hg]; exact Nat.ne_of_lt (d_ (g := jM) (o := .cells #[.int .i64 aT, .int .i64 aZ, .slice bK aX.length bJ] 29 (0, 0)) (by (with_reducible repeat (first | refine aB ?_ _ | refine aF ?_ | refine aC ?_ _)); exact eu.out)) : jM ≠ nH)); have kU := aj.mk ((by rw [hg]; exact Nat.ne_of_gt (d_ (g := jM) (o := .cells #[.int .i64 aT, .int .i64 aZ, .slice bK aX.length bJ] 29 (0, 0)) (by (with_reducible repeat (first | refine aB ?_ _ | refine aF ?_ | refine aC ?_ _)); exact eu.out)) : nH ≠ jM)); clear eu; clear HB; have eu := bF; have HB := dS; have fM := eF; have adM := fP; have EW := jT; have RJ := ku; have RI := kU; clear bF dS eF fP jT ku kU; clear hb hbox hg))
   have bF := aj.mk (aF eu.out); have dS := aj.mk (aF fM.out); have eF := aj.mk (au HB.out); clear eu; clear fM; clear HB; have eu := bF; have fM := dS; have HB := eF; clear bF dS eF; refine Hy (n := 13) (S := fun w' => w'.cell? ⟨jM, 0, none⟩ = some (.int .i64 aT) ∧ w'.cell? ⟨jM, 1, none⟩ = some (.int .i64 aZ) ∧ w'.cell? ⟨jM, 2, none⟩ = some (.slice bK aX.length bJ) ∧ w'.cell? ⟨nH, 0, none⟩ = some (.int .i64 bH) ∧ w'.cell? ⟨nH, 1, none⟩ = some (.int .i64 bI) ∧ w'.cell? ⟨nH, 2, none⟩ = some (.slice eH bu.length eY)) (ds := []) #[false, false, false, false, false, false, false, false, false, false, false, false, false] (by kernel_rfl) rfl rfl ⟨(az eu.out 0).trans rfl, (az eu.out 1).trans rfl, (az eu.out 2).trans rfl, (az fM.out 0).trans rfl, (az fM.out 1).trans rfl, (az fM.out 2).trans rfl⟩ (fun hHeld => ?_); refine wI gB.VG gB.PO (fun kN Ld => ?_)
   generalize w8.drew = w9 at eu fM HB hHeld ⊢; refine qB (i := 0) (N := some 5) (v := ?_) (a' := ?_) #[true, false, false, false, false, false, false, false, false, false, false, false, false] rfl rfl (iT kN.out Ld.out (by kernel_rfl)) (fun _ _ _ h => h) (Or.inl ⟨by rfl, ?_⟩) hHeld ?_ ?_
   rotate_left
   · rintro w' ⟨s0, s1, s2, s3, s4, s5⟩
     go_simp
     with_reducible rfl
   rotate_left
   · simp only [Act.put, List.setIfInBounds_toArray, List.set_cons_zero, List.set_cons_succ, dA, dB]
     rfl
   refine qB (i := 2) (N := some 7) (v := ?_) (a' := ?_) #[true, false, true, false, false, false, false, false, false, false, false, false, false] rfl rfl (iT kN.out Ld.out (by kernel_rfl)) (fun _ _ _ h => h) (Or.inl ⟨by rfl, ?_⟩) hHeld ?_ ?_
   rotate_left
   · rintro w' ⟨s0, s1, s2, s3, s4, s5⟩
     go_simp
     with_reducible rfl
   rotate_left
   · simp only [Act.put, List.setIfInBounds_toArray, List.set_cons_zero, List.set_cons_succ, dA, dB]
     rfl
   refine Dx (i := 1) (N := some 6) #[true, true, true, false, false, false, false, false, false, false, false, false, false] rfl rfl (oK kN.out (by kernel_rfl)) (by decide) (fun K hK => ?_)
   refine xK Tryz.func131 (by kernel_rfl) rfl #[.agg #[.int .i64 aT, .int .i64 aZ, .slice bK aX.length bJ]] (by rfl) rfl rfl (by (try simp only [List.map_toArray, List.map_cons, List.map_nil]); first | done | rfl | (simp only [List.length_drop, List.length_take]; rfl)) ?_
   with_reducible refine (oL.calls aT aZ _ _ aX t160 t161 _ ?gm ?f_ A3.out).mono ?_
   (case gm => repeat (first | exact (Kd.fQ mF.out HB.out) | (with_reducible refine Kd.gZ ?_ _) | (with_reducible refine Kd.gY ?_ _) | (with_reducible refine Kd.ji ?_)))
   (case f_ => exact oP.out)
   rintro e w10 ⟨rfl, hb⟩; refine ⟨_, rfl, ?_⟩
   have bF := aj.mk (bz (g := jM) (o := .cells #[.int .i64 aT, .int .i64 aZ, .slice bK aX.length bJ] 29 (0, 0)) (by (with_reducible repeat (first | refine aB ?_ _ | refine aF ?_ | refine aC ?_ _)); exact eu.out) hb); have dS := aj.mk (bz (g := nH) (o := .cells #[.int .i64 bH, .int .i64 bI, .slice eH bu.length eY] 29 (0, 0)) (by (with_reducible repeat (first | refine aB ?_ _ | refine aF ?_ | refine aC ?_ _)); exact fM.out) hb); have eF := aj.mk (aP (by repeat (first | (with_reducible first | exact HB.out | apply ak | apply ah | apply au | refine aA ?_ sJ.out | refine aA ?_ EW.out) | exact HB.out)) hb); clear eu; clear fM; clear HB; have eu := bF; have fM := dS; have HB := eF; clear bF dS eF
   (try clear hb)
   (try clear hb2)
   (try clear hk)
   (try clear hi)
   refine hK.out _ _ ⟨(az eu.out 0).trans rfl, (az eu.out 1).trans rfl, (az eu.out 2).trans rfl, (az fM.out 0).trans rfl, (az fM.out 1).trans rfl, (az fM.out 2).trans rfl⟩ (fun hHeld => ?_)
   clear hK K; refine xG (a' := ?_) ?_ ?_
   rotate_left
   · show Act.put _ (some 6) _ = _
     simp only [Act.put, List.setIfInBounds_toArray, List.set_cons_zero, List.set_cons_succ, dA, dB]; rfl
   refine Dx (i := 3) (N := some 8) #[true, true, true, true, false, false, false, false, false, false, false, false, false] rfl rfl (oK kN.out (by kernel_rfl)) (by decide) (fun K hK => ?_)
   refine xK Tryz.func131 (by kernel_rfl) rfl #[.agg #[.int .i64 bH, .int .i64 bI, .slice eH bu.length eY]] (by rfl) rfl rfl (by (try simp only [List.map_toArray, List.map_cons, List.map_nil]); first | done | rfl | (simp only [List.length_drop, List.length_take]; rfl)) ?_
   with_reducible refine (oL.calls bH bI _ _ bu t162 t163 _ ?gm ?f_ A4.out).mono ?_
   (case gm => repeat (first | exact (Kd.fQ sH.out HB.out) | (with_reducible refine Kd.gZ ?_ _) | (with_reducible refine Kd.gY ?_ _) | (with_reducible refine Kd.ji ?_)))
   (case f_ => exact wo.out)
   rintro e BG ⟨rfl, hb⟩; refine ⟨_, rfl, ?_⟩
   have bF := aj.mk (bz (g := jM) (o := .cells #[.int .i64 aT, .int .i64 aZ, .slice bK aX.length bJ] 29 (0, 0)) (by (with_reducible repeat (first | refine aB ?_ _ | refine aF ?_ | refine aC ?_ _)); exact eu.out) hb); have dS := aj.mk (bz (g := nH) (o := .cells #[.int .i64 bH, .int .i64 bI, .slice eH bu.length eY] 29 (0, 0)) (by (with_reducible repeat (first | refine aB ?_ _ | refine aF ?_ | refine aC ?_ _)); exact fM.out) hb); have eF := aj.mk (aP (by repeat (first | (with_reducible first | exact HB.out | apply ak | apply ah | apply au | refine aA ?_ sJ.out | refine aA ?_ EW.out) | exact HB.out)) hb); clear eu; clear fM; clear HB; have eu := bF; have fM := dS; have HB := eF; clear bF dS eF
   (try clear hb)
   (try clear hb2)
   (try clear hk)
   (try clear hi)
   refine hK.out _ _ ⟨(az eu.out 0).trans rfl, (az eu.out 1).trans rfl, (az eu.out 2).trans rfl, (az fM.out 0).trans rfl, (az fM.out 1).trans rfl, (az fM.out 2).trans rfl⟩ (fun hHeld => ?_)
   clear hK K; refine xG (a' := ?_) ?_ ?_
   rotate_left
   · show Act.put _ (some 8) _ = _
     simp only [Act.put, List.setIfInBounds_toArray, List.set_cons_zero, List.set_cons_succ, dA, dB]; rfl
   refine gy (i := 4) (N := some 9) (v := ?_) (a' := ?_) #[true, true, true, true, true, false, false, false, false, false, false, false, false] rfl rfl (dX kN.out (by kernel_rfl)) (fun _ _ _ h => h) (Or.inl ⟨by rfl, ?_⟩) ?_ ?_
   rotate_left
   · intro w'
     go_simp
     with_reducible rfl
   rotate_left
   · simp only [Act.put, List.setIfInBounds_toArray, List.set_cons_zero, List.set_cons_succ, dA, dB]
     rfl
   refine gy (i := 5) (N := some 10) (v := ?_) (a' := ?_) #[true, true, true, true, true, true, false, false, false, false, false, false, false] rfl rfl (dX kN.out (by kernel_rfl)) (fun _ _ _ h => h) (Or.inl ⟨by rfl, ?_⟩) ?_ ?_
   rotate_left
   · intro w'
     go_simp
     with_reducible rfl
   rotate_left
   · simp only [Act.put, List.setIfInBounds_toArray, List.set_cons_zero, List.set_cons_succ, dA, dB]
     rfl
   refine gy (i := 6) (N := some 11) (v := ?_) (a' := ?_) #[true, true, true, true, true, true, true, false, false, false, false, false, false] rfl rfl (dX kN.out (by kernel_rfl)) (fun _ _ _ h => h) (Or.inl ⟨by rfl, ?_⟩) ?_ ?_
   rotate_left
   · intro w'
     go_simp
     with_reducible rfl
   rotate_left
   · simp only [Act.put, List.setIfInBounds_toArray, List.set_cons_zero, List.set_cons_succ, dA, dB]
     rfl
   refine gy (i := 8) (N := some 13) (v := ?_) (a' := ?_) #[true, true, true, true, true, true, true, false, true, false, false, false, false] rfl rfl (dX kN.out (by kernel_rfl)) (fun _ _ _ h => h) (Or.inl ⟨by rfl, ?_⟩) ?_ ?_
   rotate_left
   · intro w'
     go_simp
     with_reducible rfl
   rotate_left
   · simp only [Act.put, List.setIfInBounds_toArray, List.set_cons_zero, List.set_cons_succ, dA, dB]
     rfl
   refine qB (i := 7) (N := some 12) (v := ?_) (a' := ?_) #[true, true, true, true, true, true, true, true, true, false, false, false, false] rfl rfl (iT kN.out Ld.out (by kernel_rfl)) (fun _ _ _ h => h) (Or.inl ⟨by rfl, ?_⟩) hHeld ?_ ?_
   rotate_left
   · rintro w' ⟨s0, s1, s2, s3, s4, s5⟩
     go_simp
     with_reducible rfl
   rotate_left
   · simp only [Act.put, List.setIfInBounds_toArray, List.set_cons_zero, List.set_cons_succ, dA, dB]
     rfl
   refine qB (i := 9) (N := some 14) (v := ?_) (a' := ?_) #[true, true, true, true, true, true, true, true, true, true, false, false, false] rfl rfl (iT kN.out Ld.out (by kernel_rfl)) (fun _ _ _ h => h) (Or.inl ⟨by rfl, ?_⟩) hHeld ?_ ?_
   rotate_left
   · rintro w' ⟨s0, s1, s2, s3, s4, s5⟩
     go_simp
     with_reducible rfl
   rotate_left
   · simp only [Act.put, List.setIfInBounds_toArray, List.set_cons_zero, List.set_cons_succ, dA, dB]
     rfl
   refine Dx (i := 10) (N := some 15) #[true, true, true, true, true, true, true, true, true, true, true, false, false] rfl rfl (oK kN.out (by kernel_rfl)) (by decide) (fun K hK => ?_)
   refine xK Tryz.func132 (by kernel_rfl) rfl #[.slice bK aX.length bJ, .slice eH bu.length eY] (by rfl) rfl rfl (by (try simp only [List.map_toArray, List.map_cons, List.map_nil]); first | done | rfl | (simp only [List.length_drop, List.length_take]; rfl)) ?_
   with_reducible refine (eG.calls k _ _ aX _ _ bu t164 _ ?gm ?f_ ?pR ?uP A6.out).mono ?_
   (case gm => repeat (first | exact (Kd.fQ mF.out HB.out) | (with_reducible refine Kd.gZ ?_ _) | (with_reducible refine Kd.gY ?_ _) | (with_reducible refine Kd.ji ?_)))
   (case f_ => exact oP.out)
   (case pR => repeat (first | exact (Kd.fQ sH.out HB.out) | (with_reducible refine Kd.gZ ?_ _) | (with_reducible refine Kd.gY ?_ _) | (with_reducible refine Kd.ji ?_)))
   (case uP => exact wo.out)
   rintro e w' ⟨rfl, ⟨nd, rfl⟩⟩; refine ⟨_, rfl, ?_⟩
   refine hK.out _ _ ⟨(az eu.out 0).trans rfl, (az eu.out 1).trans rfl, (az eu.out 2).trans rfl, (az fM.out 0).trans rfl, (az fM.out 1).trans rfl, (az fM.out 2).trans rfl⟩ (fun hHeld => ?_)
   clear hK K; refine xG (a' := ?_) ?_ ?_
   rotate_left
   · show Act.put _ (some 15) _ = _
     simp only [Act.put, List.setIfInBounds_toArray, List.set_cons_zero, List.set_cons_succ, dA, dB]; rfl
   refine gy (i := 11) (N := some 16) (v := ?_) (a' := ?_) #[true, true, true, true, true, true, true, true, true, true, true, true, false] rfl rfl (dX kN.out (by kernel_rfl)) (fun _ _ _ h => h) (Or.inl ⟨by rfl, ?_⟩) ?_ ?_
   rotate_left
   · intro w'
     go_simp
     with_reducible rfl
   rotate_left
   · simp only [Act.put, List.setIfInBounds_toArray, List.set_cons_zero, List.set_cons_succ, dA, dB]
     rfl
   refine gy (i := 12) (N := some 4) (v := ?_) (a' := ?_) #[true, true, true, true, true, true, true, true, true, true, true, true, true] rfl rfl (dX kN.out (by kernel_rfl)) (fun _ _ _ h => h) (Or.inl ⟨by rfl, ?_⟩) ?_ ?_
   rotate_left
   · intro w'
     go_simp
     with_reducible rfl
   rotate_left
   · simp only [Act.put, List.setIfInBounds_toArray, List.set_cons_zero, List.set_cons_succ, dA, dB]
     rfl
   refine PE (CG kN.out (by kernel_rfl)) ?_
   try go_wp2
   go_ret
   exact ⟨by first | rfl | (simp [aO, aN] <;> rfl) | (simp [*, aO, aN] <;> rfl), by repeat (first | (with_reducible first | exact HB.out | apply ak | apply ah | apply au | refine aA ?_ sJ.out | refine aA ?_ EW.out) | exact HB.out)⟩
 · rw [if_neg c5] at H
   have BK : (t160 == t162 && (t161 == t163)) = false := by simpa using c5
   (try (have ahH : decide (t160 = t162 && (t161 == t163)) = false := by simpa using c5))
   (try (have ahG : (t160 == t162 && (t161 == t163)) = false := by simpa using c5))
   (try (have amu : ¬ (t160 = t162 && (t161 == t163)) := by simpa using c5))
   clear c5; obtain rfl := Option.some.inj H
   go_enter Tryz.func81, Tryz.ntmps81
   try go_wp2_with (first | ((with_reducible refine dG (N := 2) rfl ?_); refine cu ?hg (N := 2) ?hd (cs := #[.int .i64 aT, .int .i64 aZ, .slice bK aX.length bJ]) (t := 29) ?hr ?_; (case hd => rfl); (case hg => rfl); (case hr => first | (go_simp; done) | (go_simp; rfl)); intro jM hg w12 hbox hb; have bF := aj.mk (aP (by repeat (first | (with_reducible first | exact HB.out | apply ak | apply ah | apply au) | exact HB.out)) hb); have dS := aj.mk (hbox); have eF := aj.mk ((by rw [hg]; exact (bf (by repeat (first | (with_reducible first | exact HB.out | apply ak | apply ah | apply au) | exact HB.out))) : w.heap.size ≤ jM)); have fP := aj.mk ((by rw [hg]; exact (bf (by repeat (first | (with_reducible first | exact HB.out | apply ak | apply ah | apply au) | exact HB.out))) : w.heap.size ≤ jM)); clear HB; have HB := bF; have eu := dS; have adN := eF; have sJ := fP; clear bF dS eF fP; clear hb hbox hg) | ((with_reducible refine dG (N := 3) rfl ?_); refine cu ?hg (N := 3) ?hd (cs := #[.int .i64 bH, .int .i64 bI, .slice eH bu.length eY]) (t := 29) ?hr ?_; (case hd => rfl); (case hg => rfl); (case hr => first | (go_simp; done) | (go_simp; rfl)); intro nH hg Su hbox hb; have bF := aj.mk (bz (g := jM) (o := .cells #[.int .i64 aT, .int .i64 aZ, .slice bK aX.length bJ] 29 (0, 0)) (by (with_reducible repeat (first | refine aB ?_ _ | refine aF ?_ | refine aC ?_ _)); exact eu.out) hb); have dS := aj.mk (aP (by repeat (first | (with_reducible first | exact HB.out | apply ak | apply ah | apply au | refine aA ?_ sJ.out) | exact HB.out)) hb); have eF := aj.mk (hbox); have fP := aj.mk ((by rw [hg]; exact (bf (by repeat (first | (with_reducible first | exact HB.out | apply ak | apply ah | apply au | refine aA ?_ sJ.out) | exact HB.out))) : w.heap.size ≤ nH)); have jT := aj.mk ((by rw [hg]; exact (bf (by repeat (first | (with_reducible first | exact HB.out | apply ak | apply ah | apply au | refine aA ?_ sJ.out) | exact HB.out))) : w.heap.size ≤ nH)); have ku := aj.mk ((by rw [hg]; exact Nat.ne_of_lt (d_ (g := jM) (o := .cells #[.int .i64 aT, .int .i64 aZ, .slice bK aX.length bJ] 29 (0, 0)) (by (with_reducible repeat (first | refine aB ?_ _ | refine aF ?_ | refine aC ?_ _)); exact eu.out)) : jM ≠ nH)); have kU := aj.mk ((by rw [hg]; exact Nat.ne_of_gt (d_ (g := jM) (o := .cells #[.int .i64 aT, .int .i64 aZ, .slice bK aX.length bJ] 29 (0, 0)) (by (with_reducible repeat (first | refine aB ?_ _ | refine aF ?_ | refine aC ?_ _)); exact eu.out)) : nH ≠ jM)); clear eu; clear HB; have eu := bF; have HB := dS; have fM := eF; have adM := fP; have EW := jT; have RJ := ku; have RI := kU; clear bF dS eF fP jT ku kU; clear hb hbox hg))
   have bF := aj.mk (aF eu.out); have dS := aj.mk (aF fM.out); have eF := aj.mk (au HB.out); clear eu; clear fM; clear HB; have eu := bF; have fM := dS; have HB := eF; clear bF dS eF; refine Hy (n := 13) (S := fun w' => w'.cell? ⟨jM, 0, none⟩ = some (.int .i64 aT) ∧ w'.cell? ⟨jM, 1, none⟩ = some (.int .i64 aZ) ∧ w'.cell? ⟨jM, 2, none⟩ = some (.slice bK aX.length bJ) ∧ w'.cell? ⟨nH, 0, none⟩ = some (.int .i64 bH) ∧ w'.cell? ⟨nH, 1, none⟩ = some (.int .i64 bI) ∧ w'.cell? ⟨nH, 2, none⟩ = some (.slice eH bu.length eY)) (ds := []) #[false, false, false, false, false, false, false, false, false, false, false, false, false] (by kernel_rfl) rfl rfl ⟨(az eu.out 0).trans rfl, (az eu.out 1).trans rfl, (az eu.out 2).trans rfl, (az fM.out 0).trans rfl, (az fM.out 1).trans rfl, (az fM.out 2).trans rfl⟩ (fun hHeld => ?_); refine wI gB.VG gB.PO (fun kN Ld => ?_)
   generalize Su.drew = w14 at eu fM HB hHeld ⊢; refine qB (i := 0) (N := some 5) (v := ?_) (a' := ?_) #[true, false, false, false, false, false, false, false, false, false, false, false, false] rfl rfl (iT kN.out Ld.out (by kernel_rfl)) (fun _ _ _ h => h) (Or.inl ⟨by rfl, ?_⟩) hHeld ?_ ?_
   rotate_left
   · rintro w' ⟨s0, s1, s2, s3, s4, s5⟩
     go_simp
     with_reducible rfl
   rotate_left
   · simp only [Act.put, List.setIfInBounds_toArray, List.set_cons_zero, List.set_cons_succ, dA, dB]
     rfl
   refine qB (i := 2) (N := some 7) (v := ?_) (a' := ?_) #[true, false, true, false, false, false, false, false, false, false, false, false, false] rfl rfl (iT kN.out Ld.out (by kernel_rfl)) (fun _ _ _ h => h) (Or.inl ⟨by rfl, ?_⟩) hHeld ?_ ?_
   rotate_left
   · rintro w' ⟨s0, s1, s2, s3, s4, s5⟩
     go_simp
     with_reducible rfl
   rotate_left
   · simp only [Act.put, List.setIfInBounds_toArray, List.set_cons_zero, List.set_cons_succ, dA, dB]
     rfl
   refine Dx (i := 1) (N := some 6) #[true, true, true, false, false, false, false, false, false, false, false, false, false] rfl rfl (oK kN.out (by kernel_rfl)) (by decide) (fun K hK => ?_)
   refine xK Tryz.func131 (by kernel_rfl) rfl #[.agg #[.int .i64 aT, .int .i64 aZ, .slice bK aX.length bJ]] (by rfl) rfl rfl (by (try simp only [List.map_toArray, List.map_cons, List.map_nil]); first | done | rfl | (simp only [List.length_drop, List.length_take]; rfl)) ?_
   with_reducible refine (oL.calls aT aZ _ _ aX t160 t161 _ ?gm ?f_ A3.out).mono ?_
   (case gm => repeat (first | exact (Kd.fQ mF.out HB.out) | (with_reducible refine Kd.gZ ?_ _) | (with_reducible refine Kd.gY ?_ _) | (with_reducible refine Kd.ji ?_)))
   (case f_ => exact oP.out)
   rintro e w15 ⟨rfl, hb⟩; refine ⟨_, rfl, ?_⟩
   have bF := aj.mk (bz (g := jM) (o := .cells #[.int .i64 aT, .int .i64 aZ, .slice bK aX.length bJ] 29 (0, 0)) (by (with_reducible repeat (first | refine aB ?_ _ | refine aF ?_ | refine aC ?_ _)); exact eu.out) hb); have dS := aj.mk (bz (g := nH) (o := .cells #[.int .i64 bH, .int .i64 bI, .slice eH bu.length eY] 29 (0, 0)) (by (with_reducible repeat (first | refine aB ?_ _ | refine aF ?_ | refine aC ?_ _)); exact fM.out) hb); have eF := aj.mk (aP (by repeat (first | (with_reducible first | exact HB.out | apply ak | apply ah | apply au | refine aA ?_ sJ.out | refine aA ?_ EW.out) | exact HB.out)) hb); clear eu; clear fM; clear HB; have eu := bF; have fM := dS; have HB := eF; clear bF dS eF
   (try clear hb)
   (try clear hb2)
   (try clear hk)
   (try clear hi)
   refine hK.out _ _ ⟨(az eu.out 0).trans rfl, (az eu.out 1).trans rfl, (az eu.out 2).trans rfl, (az fM.out 0).trans rfl, (az fM.out 1).trans rfl, (az fM.out 2).trans rfl⟩ (fun hHeld => ?_)
   clear hK K; refine xG (a' := ?_) ?_ ?_
   rotate_left
   · show Act.put _ (some 6) _ = _
     simp only [Act.put, List.setIfInBounds_toArray, List.set_cons_zero, List.set_cons_succ, dA, dB]; rfl
   refine Dx (i := 3) (N := some 8) #[true, true, true, true, false, false, false, false, false, false, false, false, false] rfl rfl (oK kN.out (by kernel_rfl)) (by decide) (fun K hK => ?_)
   refine xK Tryz.func131 (by kernel_rfl) rfl #[.agg #[.int .i64 bH, .int .i64 bI, .slice eH bu.length eY]] (by rfl) rfl rfl (by (try simp only [List.map_toArray, List.map_cons, List.map_nil]); first | done | rfl | (simp only [List.length_drop, List.length_take]; rfl)) ?_
   with_reducible refine (oL.calls bH bI _ _ bu t162 t163 _ ?gm ?f_ A4.out).mono ?_
   (case gm => repeat (first | exact (Kd.fQ sH.out HB.out) | (with_reducible refine Kd.gZ ?_ _) | (with_reducible refine Kd.gY ?_ _) | (with_reducible refine Kd.ji ?_)))
   (case f_ => exact wo.out)
   rintro e w16 ⟨rfl, hb⟩; refine ⟨_, rfl, ?_⟩
   have bF := aj.mk (bz (g := jM) (o := .cells #[.int .i64 aT, .int .i64 aZ, .slice bK aX.length bJ] 29 (0, 0)) (by (with_reducible repeat (first | refine aB ?_ _ | refine aF ?_ | refine aC ?_ _)); exact eu.out) hb); have dS := aj.mk (bz (g := nH) (o := .cells #[.int .i64 bH, .int .i64 bI, .slice eH bu.length eY] 29 (0, 0)) (by (with_reducible repeat (first | refine aB ?_ _ | refine aF ?_ | refine aC ?_ _)); exact fM.out) hb); have eF := aj.mk (aP (by repeat (first | (with_reducible first | exact HB.out | apply ak | apply ah | apply au | refine aA ?_ sJ.out | refine aA ?_ EW.out) | exact HB.out)) hb); clear eu; clear fM; clear HB; have eu := bF; have fM := dS; have HB := eF; clear bF dS eF
   (try clear hb)
   (try clear hb2)
   (try clear hk)
   (try clear hi)
   refine hK.out _ _ ⟨(az eu.out 0).trans rfl, (az eu.out 1).trans rfl, (az eu.out 2).trans rfl, (az fM.out 0).trans rfl, (az fM.out 1).trans rfl, (az fM.out 2).trans rfl⟩ (fun hHeld => ?_)
   clear hK K; refine xG (a' := ?_) ?_ ?_
   rotate_left
   · show Act.put _ (some 8) _ = _
     simp only [Act.put, List.setIfInBounds_toArray, List.set_cons_zero, List.set_cons_succ, dA, dB]; rfl
   refine gy (i := 4) (N := some 9) (v := ?_) (a' := ?_) #[true, true, true, true, true, false, false, false, false, false, false, false, false] rfl rfl (dX kN.out (by kernel_rfl)) (fun _ _ _ h => h) (Or.inl ⟨by rfl, ?_⟩) ?_ ?_
   rotate_left
   · intro w'
     go_simp
     with_reducible rfl
   rotate_left
   · simp only [Act.put, List.setIfInBounds_toArray, List.set_cons_zero, List.set_cons_succ, dA, dB]
     rfl
   refine gy (i := 5) (N := some 10) (v := ?_) (a' := ?_) #[true, true, true, true, true, true, false, false, false, false, false, false, false] rfl rfl (dX kN.out (by kernel_rfl)) (fun _ _ _ h => h) (Or.inl ⟨by rfl, ?_⟩) ?_ ?_
   rotate_left
   · intro w'
     go_simp
     with_reducible rfl
   rotate_left
   · simp only [Act.put, List.setIfInBounds_toArray, List.set_cons_zero, List.set_cons_succ, dA, dB]
     rfl
   refine gy (i := 6) (N := some 11) (v := undef) (a' := ?_) #[true, true, true, true, true, true, true, false, false, false, false, false, false] rfl rfl (dX kN.out (by kernel_rfl)) (fun _ _ _ h => h) (Or.inr ⟨by rfl, rfl⟩) ?_ ?_
   rotate_left
   · simp only [Act.put, List.setIfInBounds_toArray, List.set_cons_zero, List.set_cons_succ, dA, dB]
     rfl
   refine gy (i := 7) (N := some 12) (v := undef) (a' := ?_) #[true, true, true, true, true, true, true, true, false, false, false, false, false] rfl rfl (dX kN.out (by kernel_rfl)) (fun _ _ _ h => h) (Or.inr ⟨by rfl, rfl⟩) ?_ ?_
   rotate_left
   · simp only [Act.put, List.setIfInBounds_toArray, List.set_cons_zero, List.set_cons_succ, dA, dB]
     rfl
   refine gy (i := 8) (N := some 13) (v := undef) (a' := ?_) #[true, true, true, true, true, true, true, true, true, false, false, false, false] rfl rfl (dX kN.out (by kernel_rfl)) (fun _ _ _ h => h) (Or.inr ⟨by rfl, rfl⟩) ?_ ?_
   rotate_left
   · simp only [Act.put, List.setIfInBounds_toArray, List.set_cons_zero, List.set_cons_succ, dA, dB]
     rfl
   refine gy (i := 9) (N := some 14) (v := undef) (a' := ?_) #[true, true, true, true, true, true, true, true, true, true, false, false, false] rfl rfl (dX kN.out (by kernel_rfl)) (fun _ _ _ h => h) (Or.inr ⟨by rfl, rfl⟩) ?_ ?_
   rotate_left
   · simp only [Act.put, List.setIfInBounds_toArray, List.set_cons_zero, List.set_cons_succ, dA, dB]
     rfl
   refine gy (i := 10) (N := some 15) (v := undef) (a' := ?_) #[true, true, true, true, true, true, true, true, true, true, true, false, false] rfl rfl (dX kN.out (by kernel_rfl)) (fun _ _ _ h => h) (Or.inr ⟨by rfl, rfl⟩) ?_ ?_
   rotate_left
   · simp only [Act.put, List.setIfInBounds_toArray, List.set_cons_zero, List.set_cons_succ, dA, dB]
     rfl
   refine gy (i := 11) (N := some 16) (v := ?_) (a' := ?_) #[true, true, true, true, true, true, true, true, true, true, true, true, false] rfl rfl (dX kN.out (by kernel_rfl)) (fun _ _ _ h => h) (Or.inl ⟨by rfl, ?_⟩) ?_ ?_
   rotate_left
   · intro w'
     go_simp
     with_reducible rfl
   rotate_left
   · simp only [Act.put, List.setIfInBounds_toArray, List.set_cons_zero, List.set_cons_succ, dA, dB]
     rfl
   refine gy (i := 12) (N := some 4) (v := ?_) (a' := ?_) #[true, true, true, true, true, true, true, true, true, true, true, true, true] rfl rfl (dX kN.out (by kernel_rfl)) (fun _ _ _ h => h) (Or.inl ⟨by rfl, ?_⟩) ?_ ?_
   rotate_left
   · intro w'
     go_simp
     with_reducible rfl
   rotate_left
   · simp only [Act.put, List.setIfInBounds_toArray, List.set_cons_zero, List.set_cons_succ, dA, dB]
     rfl
   refine PE (CG kN.out (by kernel_rfl)) ?_
   try go_wp2
   go_ret
   exact ⟨by first | rfl | (simp [aO, aN] <;> rfl) | (simp [*, aO, aN] <;> rfl), by repeat (first | (with_reducible first | exact HB.out | apply ak | apply ah | apply au | refine aA ?_ sJ.out | refine aA ?_ EW.out) | exact HB.out)⟩
def bits_Mul.f (a0 : Int) (a1 : Int) : Option (Int × Int) := (bits_Mul64.f a0 a1).bind fun KR => (some (KR.1, KR.2))
theorem bits_Mul.calls (a0 : Int) (a1 : Int) (r1 : Int) (r2 : Int) (w : World) (h : bits_Mul.f a0 a1 = some (r1, r2)) :
 Calls Tryz.prog 211 #[.int .u64 a0, .int .u64 a1] w fun e w' => e = .returned (.tuple #[.int .u64 r1, .int .u64 r2]) ∧ bU w w' := by
 have H : ((bits_Mul64.f a0 a1).bind fun KR => (some (KR.1, KR.2))) = some (r1, r2) := h; clear h; replace H := Option.bind_eq_some_iff.mp H; obtain ⟨⟨t165, t166⟩, BC, H⟩ := H; replace H : (some (t165, t166)) = some (r1, r2) := H; have A3 := aj.mk BC; clear BC; simp only [Option.some.injEq, Prod.mk.injEq] at H; obtain ⟨rfl, rfl⟩ := H
 go_enter Tryz.func211, Tryz.ntmps211
 go_wp2_with (first | ((with_reducible refine aH (f := 147) rfl ?_); refine bg (some 25) rfl rfl Tryz.func147 (by kernel_rfl) rfl #[.int .u64 a0, .int .u64 a1] rfl (by (try simp only [List.map_toArray, List.map_cons, List.map_nil]); first | done | rfl | (simp only [List.length_drop, List.length_take]; rfl)) ?_; (with_reducible refine (bits_Mul64.calls a0 a1 t165 t166 _ A3.out).mono ?_); rintro e w' ⟨rfl, ⟨nd, rfl⟩⟩; refine ⟨_, rfl, ?_⟩))
 go_ret2
 exact ⟨by first | rfl | (simp; done) | (simp [*]; done), by repeat (first | exact bU.refl _ | apply bU.step)⟩
def nK.f  : Option (Int × Int × Int × Int × Int × Int) := some (2097152, 16777216, 262144, 16777216, 16777216, 268435456)
theorem nK.calls  (r1 : Int) (r2 : Int) (r3 : Int) (r4 : Int) (r5 : Int) (r6 : Int) (w : World) (h : nK.f  = some (r1, r2, r3, r4, r5, r6)) :
 Calls Tryz.prog 32 #[] w fun e w' => e = .returned (.agg #[.int .i64 r1, .int .i64 r2, .int .i64 r3, .int .i64 r4, .int .i64 r5, .int .i64 r6]) ∧ Below w.heap.size w w' := by
 have Zu := Tryz.underlying24; have HB := aj.mk (Below.refl w.heap.size w); have H : (some (2097152, 16777216, 262144, 16777216, 16777216, 268435456)) = some (r1, r2, r3, r4, r5, r6) := h; clear h; simp only [Option.some.injEq, Prod.mk.injEq] at H; obtain ⟨rfl, rfl, rfl, rfl, rfl, rfl⟩ := H
 go_enter Tryz.func32, Tryz.ntmps32
 go_wp2_with (first | ((with_reducible refine dG (N := 0) rfl ?_); refine cu ?hg (N := 0) ?hd (cs := #[.int .i64 0, .int .i64 0, .int .i64 0, .int .i64 0, .int .i64 0, .int .i64 0]) (t := 24) ?hr ?_; (case hd => rfl); (case hg => rfl); (case hr => first | (go_simp; done) | (go_simp; rfl)); intro yT hg w1 hbox hb; have bF := aj.mk (aP (by repeat (first | (with_reducible first | exact HB.out | apply ak | apply ah | apply au) | exact HB.out)) hb); have dS := aj.mk (hbox); have eF := aj.mk ((by rw [hg]; exact (bf (by repeat (first | (with_reducible first | exact HB.out | apply ak | apply ah | apply au) | exact HB.out))) : w.heap.size ≤ yT)); have fP := aj.mk ((by rw [hg]; exact (bf (by repeat (first | (with_reducible first | exact HB.out | apply ak | apply ah | apply au) | exact HB.out))) : w.heap.size ≤ yT)); clear HB; have HB := bF; have sK := dS; have akO := eF; have adO := fP; clear bF dS eF fP; clear hb hbox hg; have ahm : w1.cell? ⟨yT, 0, none⟩ = some (.int .i64 0) := (az sK.out 0).trans rfl; have ahl : w1.cell? ⟨yT, 1, none⟩ = some (.int .i64 0) := (az sK.out 1).trans rfl; have ahk : w1.cell? ⟨yT, 2, none⟩ = some (.int .i64 0) := (az sK.out 2).trans rfl; have ahj : w1.cell? ⟨yT, 3, none⟩ = some (.int .i64 0) := (az sK.out 3).trans rfl; have ahi : w1.cell? ⟨yT, 4, none⟩ = some (.int .i64 0) := (az sK.out 4).trans rfl; have ahh : w1.cell? ⟨yT, 5, none⟩ = some (.int .i64 0) := (az sK.out 5).trans rfl; have ahb := ay sK.out 0; have aha := ay sK.out 1; have ag_ := ay sK.out 2; have ag9 := ay sK.out 3; have ag8 := ay sK.out 4; have ag7 := ay sK.out 5))
 refine bodyPost_ret (results_cell_row rfl _ _ yT 24 #[.int .i64 2097152, .int .i64 16777216, .int .i64 262144, .int .i64 16777216, .int .i64 16777216, .int .i64 268435456] (0, 0) _ rfl (by (with_reducible repeat (first | refine aB ?_ _ | refine aF ?_ | refine aC ?_ _)); refine gq (cs := #[.int .i64 2097152, .int .i64 16777216, .int .i64 262144, .int .i64 16777216, .int .i64 16777216, .int .i64 0]) ?_ 5 _ rfl; (with_reducible repeat (first | refine aB ?_ _ | refine aF ?_ | refine aC ?_ _)); refine gq (cs := #[.int .i64 2097152, .int .i64 16777216, .int .i64 262144, .int .i64 16777216, .int .i64 0, .int .i64 0]) ?_ 4 _ rfl; (with_reducible repeat (first | refine aB ?_ _ | refine aF ?_ | refine aC ?_ _)); refine gq (cs := #[.int .i64 2097152, .int .i64 16777216, .int .i64 262144, .int .i64 0, .int .i64 0, .int .i64 0]) ?_ 3 _ rfl; (with_reducible repeat (first | refine aB ?_ _ | refine aF ?_ | refine aC ?_ _)); refine gq (cs := #[.int .i64 2097152, .int .i64 16777216, .int .i64 0, .int .i64 0, .int .i64 0, .int .i64 0]) ?_ 2 _ rfl; (with_reducible repeat (first | refine aB ?_ _ | refine aF ?_ | refine aC ?_ _)); refine gq (cs := #[.int .i64 2097152, .int .i64 0, .int .i64 0, .int .i64 0, .int .i64 0, .int .i64 0]) ?_ 1 _ rfl; (with_reducible repeat (first | refine aB ?_ _ | refine aF ?_ | refine aC ?_ _)); refine gq (cs := #[.int .i64 0, .int .i64 0, .int .i64 0, .int .i64 0, .int .i64 0, .int .i64 0]) ?_ 0 _ rfl; (with_reducible repeat (first | refine aB ?_ _ | refine aF ?_ | refine aC ?_ _)); exact sK.out) Tryz.underlying24 rfl (by kernel_rfl)) rfl ?_
 exact ⟨by first | rfl | (simp [aO, aN] <;> rfl) | (simp [*, aO, aN] <;> rfl), by repeat (first | (with_reducible first | exact HB.out | apply ak | apply ah | apply au | refine aA ?_ adO.out) | exact HB.out)⟩
def bM.l0 : Nat → List Int → Int → Option (Bool)
 | 0, _, _ => none
 | k + 1, x3, x4 => if x4 < (x3.length : Int) then (if 0 ≤ x4 then (if (rd x3 x4) < 1 then (some false) else (if (rd x3 x4) > 17179869184 then (some false) else (bM.l0 k x3 (wrap64 (x4 + 1))))) else (none)) else (some true)
def bM.f (k : Nat) (aT : Int) (aZ : Int) (zk : Int) (b_ : Int) (dw : Int) (zi : Int) : Option (Bool) := bM.l0 k (([aT, aZ, zk, b_, dw, zi] : List Int)) 0
theorem bM.calls (k : Nat) (aT : Int) (aZ : Int) (zk : Int) (b_ : Int) (dw : Int) (zi : Int) (r : Bool) (w : World) (h : bM.f k aT aZ zk b_ dw zi = some r) :
 Calls Tryz.prog 13 #[.agg #[.int .i64 aT, .int .i64 aZ, .int .i64 zk, .int .i64 b_, .int .i64 dw, .int .i64 zi]] w fun e w' => e = .returned (.bool r) ∧ Below w.heap.size w w' := by
 have Zu := Tryz.underlying24; have HB := aj.mk (Below.refl w.heap.size w); have H : (bM.l0 k (([aT, aZ, zk, b_, dw, zi] : List Int)) 0) = some r := h; clear h
 obtain ⟨uK, J4⟩ : ∃ y_ : List Int, y_ = (([aT, aZ, zk, b_, dw, zi] : List Int)) := ⟨_, rfl⟩
 replace H : (bM.l0 k uK 0) = some r := by first | (rw [J4]; with_reducible exact H) | (have H2_ := (Option.bind_some _ _).symm.trans H; rw [J4]; with_reducible exact H2_) | (have H2_ := (Option.bind_some _ _).symm.trans H; with_reducible exact H2_) | with_reducible exact H | (rw [J4]; exact H) | exact H
 have YJ := aj.mk J4; clear J4; have H' := aj.mk H; clear H
 go_enter Tryz.func13, Tryz.ntmps13
 go_wp2_with (first | ((with_reducible refine dG (N := 1) rfl ?_); refine cu ?hg (N := 1) ?hd (cs := #[.int .i64 aT, .int .i64 aZ, .int .i64 zk, .int .i64 b_, .int .i64 dw, .int .i64 zi]) (t := 24) ?hr ?_; (case hd => rfl); (case hg => rfl); (case hr => first | (go_simp; done) | (go_simp; rfl)); intro xM hg w2 hbox hb; have bF := aj.mk (aP (by repeat (first | (with_reducible first | exact HB.out | apply ak | apply ah | apply au) | exact HB.out)) hb); have dS := aj.mk (hbox); have eF := aj.mk ((by rw [hg]; exact (bf (by repeat (first | (with_reducible first | exact HB.out | apply ak | apply ah | apply au) | exact HB.out))) : w.heap.size ≤ xM)); have fP := aj.mk ((by rw [hg]; exact (bf (by repeat (first | (with_reducible first | exact HB.out | apply ak | apply ah | apply au) | exact HB.out))) : w.heap.size ≤ xM)); clear HB; have HB := bF; have nS := dS; have akN := eF; have EU := fP; clear bF dS eF fP; clear hb hbox hg; have ZT : w2.cell? ⟨xM, 0, none⟩ = some (.int .i64 aT) := (az nS.out 0).trans rfl; have ZR : w2.cell? ⟨xM, 1, none⟩ = some (.int .i64 aZ) := (az nS.out 1).trans rfl; have ZQ : w2.cell? ⟨xM, 2, none⟩ = some (.int .i64 zk) := (az nS.out 2).trans rfl; have ZP : w2.cell? ⟨xM, 3, none⟩ = some (.int .i64 b_) := (az nS.out 3).trans rfl; have ZO : w2.cell? ⟨xM, 4, none⟩ = some (.int .i64 dw) := (az nS.out 4).trans rfl; have ZN : w2.cell? ⟨xM, 5, none⟩ = some (.int .i64 zi) := (az nS.out 5).trans rfl; have ZK := ay nS.out 0; have ZJ := ay nS.out 1; have ZI := ay nS.out 2; have ZH := ay nS.out 3; have ZG := ay nS.out 4; have ZF := ay nS.out 5) | ((with_reducible refine dG (N := 17) rfl ?_); refine Kd.acT (Kd.int .i64) _ 22 ?hg (N := 17) ?hd (xs := ([aT, aZ, zk, b_, dw, zi] : List Int)) (inner := [.int .i64 aT, .int .i64 aZ, .int .i64 zk, .int .i64 b_, .int .i64 dw, .int .i64 zi]) (ok := fun _ => True) (okp := fun _ => True) ?hr ?hp (fun _ hk => hk) trivial (Below.refl _ _) (Nat.le_refl _) (by simp) ?_; (case hd => rfl); (case hg => rfl); (case hr => first | (go_simp; done) | (go_simp; rfl)); (case hp => exact (fH.one (show Kd.M (Kd.int .i64) _ _ _ aT [.int .i64 aT] from rfl) (fH.one (show Kd.M (Kd.int .i64) _ _ _ aZ [.int .i64 aZ] from rfl) (fH.one (show Kd.M (Kd.int .i64) _ _ _ zk [.int .i64 zk] from rfl) (fH.one (show Kd.M (Kd.int .i64) _ _ _ b_ [.int .i64 b_] from rfl) (fH.one (show Kd.M (Kd.int .i64) _ _ _ dw [.int .i64 dw] from rfl) (fH.one (show Kd.M (Kd.int .i64) _ _ _ zi [.int .i64 zi] from rfl) (fH.none _ _)))))))); intro agd w4 ho5 hb hg_ abO; clear hg_ abO; (first | rw [← YJ.out] at ho5 | (simp only [Int.reduceToNat] at ho5; rw [← YJ.out] at ho5)); have bF := aj.mk (Kd.pF ho5 (bf (by repeat (first | (with_reducible first | exact HB.out | apply ak | apply ah | apply au | refine aA ?_ EU.out) | exact HB.out)))); have dS := aj.mk (bz (g := xM) (o := .cells #[.int .i64 aT, .int .i64 aZ, .int .i64 zk, .int .i64 b_, .int .i64 dw, .int .i64 zi] 24 (0, 0)) (by (with_reducible repeat (first | refine aB ?_ _ | refine aF ?_ | refine aC ?_ _)); exact nS.out) hb); have eF := aj.mk (aP (by repeat (first | (with_reducible first | exact HB.out | apply ak | apply ah | apply au | refine aA ?_ EU.out) | exact HB.out)) hb); clear nS; clear HB; have adD := bF; have nS := dS; have HB := eF; clear bF dS eF; clear hb ho5))
 go_loopg [4] k (fun kq v4 w' => ∃ (mM : Int), v4 = .int .i64 mM ∧ aj (bM.l0 kq uK mM = some r) ∧ aj (kq ≤ k) ∧ aj (Kd.R (Kd.int .i64) 22 w' w.heap.size (fun _ => True) agd uK) ∧ aj (w'.heap[xM]? = some (.cells #[.int .i64 aT, .int .i64 aZ, .int .i64 zk, .int .i64 b_, .int .i64 dw, .int .i64 zi] 24 (0, 0))) ∧ aj (Below w.heap.size w w'))
 case atStart => exact ⟨(0), (by first | rfl | (simp; done) | (simp [*]; done)), H', ⟨Nat.le_refl _⟩, ⟨by (with_reducible repeat (first | apply Kd.gX | apply Kd.gW | apply Kd.iM)); exact adD.out⟩, ⟨by (with_reducible repeat (first | refine aB ?_ _ | refine aF ?_ | refine aC ?_ _)); exact nS.out⟩, ⟨by repeat (first | (with_reducible first | exact HB.out | apply ak | apply ah | apply au | refine aA ?_ EU.out) | exact HB.out)⟩⟩
 case round =>
  clear H'; (try clear c1); (try clear p2); (try clear ZT); (try clear ZR); (try clear ZQ); (try clear ZP); (try clear ZO); (try clear ZN); (try clear ZK); (try clear ZJ); (try clear ZI); (try clear ZH); (try clear ZG); (try clear ZF); obtain ⟨mM, rfl, HA, zA, FU, nS, HB⟩ := hrel
  cases gk with
  | zero => exact absurd HA.out (by simp [bM.l0])
  | succ k1 =>
    have H := HA.out; clear HA; simp only [bM.l0] at H
    by_cases c6 : mM < (uK.length : Int)
    · rw [if_pos c6] at H
      have ql : decide (mM < (uK.length : Int)) = true := decide_eq_true c6; clear c6
      by_cases c7 : 0 ≤ mM
      · rw [if_pos c7] at H
        have vO : decide (0 ≤ mM) = true := decide_eq_true c7; clear c7
        by_cases c8 : (rd uK mM) < 1
        · rw [if_pos c8] at H
          have zV : decide ((rd uK mM) < 1) = true := decide_eq_true c8; clear c8; obtain rfl := Option.some.inj H; obtain ⟨Ao9, co9, eo9⟩ := Kd.jV FU.out; subst eo9; have Dt : 0 ≤ (mM : Int) := of_decide_eq_true (by first | (with_reducible assumption) | assumption); have Dq : mM < (uK.length : Int) := of_decide_eq_true (by first | (with_reducible assumption) | assumption); obtain ⟨PU, e187, Pn⟩ := Kd.iK (Kd.jP FU.out).2.2 mM Dt Dq
          cases e187
          replace Dt := eq_true Dt; replace Dq := eq_true Dq; go_wp2
          go_ret
          exact ⟨by first | rfl | (simp [aO, aN] <;> rfl) | (simp [*, aO, aN] <;> rfl), by repeat (first | (with_reducible first | exact HB.out | apply ak | apply ah | apply au | refine aA ?_ EU.out) | exact HB.out)⟩
        · rw [if_neg c8] at H
          have zV : decide ((rd uK mM) < 1) = false := decide_eq_false c8; clear c8
          by_cases c10 : (rd uK mM) > 17179869184
          · rw [if_pos c10] at H
            have vT : decide (17179869184 < (rd uK mM)) = true := decide_eq_true c10; clear c10; obtain rfl := Option.some.inj H; obtain ⟨amX, amo, ahw⟩ := Kd.jV FU.out; subst ahw; have Dt : 0 ≤ (mM : Int) := of_decide_eq_true (by first | (with_reducible assumption) | assumption); have Dq : mM < (uK.length : Int) := of_decide_eq_true (by first | (with_reducible assumption) | assumption); obtain ⟨PU, e187, Pn⟩ := Kd.iK (Kd.jP FU.out).2.2 mM Dt Dq
            cases e187
            replace Dt := eq_true Dt; replace Dq := eq_true Dq; have Nc : 0 ≤ (mM : Int) := of_decide_eq_true (by first | (with_reducible assumption) | assumption); have MN : mM < (uK.length : Int) := of_decide_eq_true (by first | (with_reducible assumption) | assumption); obtain ⟨Ve, Z4, Wi⟩ := Kd.iK (Kd.jP FU.out).2.2 mM Nc MN
            obtain rfl : PU = Ve := (by injection Z4)
            replace Nc := eq_true Nc; replace MN := eq_true MN; go_wp2
            go_ret
            exact ⟨by first | rfl | (simp [aO, aN] <;> rfl) | (simp [*, aO, aN] <;> rfl), by repeat (first | (with_reducible first | exact HB.out | apply ak | apply ah | apply au | refine aA ?_ EU.out) | exact HB.out)⟩
          · rw [if_neg c10] at H
            have vT : decide (17179869184 < (rd uK mM)) = false := decide_eq_false c10; clear c10; have H' := aj.mk H; clear H; obtain ⟨aaU, aab, ZZ⟩ := Kd.jV FU.out; subst ZZ; have Dt : 0 ≤ (mM : Int) := of_decide_eq_true (by first | (with_reducible assumption) | assumption); have Dq : mM < (uK.length : Int) := of_decide_eq_true (by first | (with_reducible assumption) | assumption); obtain ⟨PU, e187, Pn⟩ := Kd.iK (Kd.jP FU.out).2.2 mM Dt Dq
            cases e187
            replace Dt := eq_true Dt; replace Dq := eq_true Dq; have Nc : 0 ≤ (mM : Int) := of_decide_eq_true (by first | (with_reducible assumption) | assumption); have MN : mM < (uK.length : Int) := of_decide_eq_true (by first | (with_reducible assumption) | assumption); obtain ⟨Ve, Z4, Wi⟩ := Kd.iK (Kd.jP FU.out).2.2 mM Nc MN
            obtain rfl : PU = Ve := (by injection Z4)
            replace Nc := eq_true Nc; replace MN := eq_true MN; go_wp2
            go_roundg k1
            case measure => have := zA.out; omega
            case rel => exact ⟨(wrap64 (mM + 1)), (by first | rfl | (simp; done) | (simp [*]; done)), H', ⟨by have := zA.out; omega⟩, ⟨by (with_reducible repeat (first | apply Kd.gX | apply Kd.gW | apply Kd.iM)); exact FU.out⟩, ⟨by (with_reducible repeat (first | refine aB ?_ _ | refine aF ?_ | refine aC ?_ _)); exact nS.out⟩, ⟨by repeat (first | (with_reducible first | exact HB.out | apply ak | apply ah | apply au | refine aA ?_ EU.out) | exact HB.out)⟩⟩
      · rw [if_neg c7] at H
        exact absurd H (by simp)
    · rw [if_neg c6] at H
      have ql : decide (mM < (uK.length : Int)) = false := decide_eq_false c6; clear c6; obtain rfl := Option.some.inj H; obtain ⟨amW, amn, ahv⟩ := Kd.jV FU.out; subst ahv; go_wp2
      go_ret
      exact ⟨by first | rfl | (simp [aO, aN] <;> rfl) | (simp [*, aO, aN] <;> rfl), by repeat (first | (with_reducible first | exact HB.out | apply ak | apply ah | apply au | refine aA ?_ EU.out) | exact HB.out)⟩
def fK.f (a0 : Int) : Option (Bool) := if a0 ≥ (-70368744177664) then (some (decide (a0 ≤ 70368744177663))) else (some false)
theorem fK.calls (a0 : Int) (r : Bool) (w : World) (h : fK.f a0 = some r) :
 Calls Tryz.prog 51 #[.int .i64 a0] w fun e w' => e = .returned (.bool r) ∧ bU w w' := by
 have H : (if a0 ≥ (-70368744177664) then (some (decide (a0 ≤ 70368744177663))) else (some false)) = some r := h; clear h
 by_cases c2 : a0 ≥ (-70368744177664)
 · rw [if_pos c2] at H
   have aaf : decide ((-70368744177664) ≤ a0) = true := decide_eq_true c2; clear c2; obtain rfl := Option.some.inj H
   go_enter Tryz.func51, Tryz.ntmps51
   go_wp2
   go_ret
   exact ⟨by first | rfl | (simp; done) | (simp [*]; done), by repeat (first | exact bU.refl _ | apply bU.step)⟩
 · rw [if_neg c2] at H
   have aaf : decide ((-70368744177664) ≤ a0) = false := decide_eq_false c2; clear c2; obtain rfl := Option.some.inj H
   go_enter Tryz.func51, Tryz.ntmps51
   go_wp2
   go_ret
   exact ⟨by first | rfl | (simp; done) | (simp [*]; done), by repeat (first | exact bU.refl _ | apply bU.step)⟩
end Go.Proofs.YtcfobekkchhbbaaGreat.PQ

namespace Go.Proofs.YtcfobekkchhbbaaGreat.PQ
open Go.RowKit Go.Proofs.af.aK Go.Proofs.af.aV Go.Proofs.af.aW
attribute [local go_sem] iH iF jJ jI gU gK iG iE
set_option linter.unusedVariables false
set_option linter.unusedSimpArgs false
end Go.Proofs.YtcfobekkchhbbaaGreat.PQ

namespace Go.Proofs.YtcfobekkchhbbaaGreat.PQ
open Go.RowKit Go.Proofs.af.aK Go.Proofs.af.aV Go.Proofs.af.aW
attribute [local go_sem] iH iF jJ jI gU gK iG iE
set_option linter.unusedVariables false
set_option linter.unusedSimpArgs false
mutual
def aG.j0 : Nat → Bool → Int → Int → List Int → Option (Bool)
 | 0, _, _, _, _ => none
 | k + 1, x33, Hl, Hg, yx => if x33 = true then (some false) else (aG.l0 k 0 Hl Hg yx)
def aG.l0 : Nat → Int → Int → Int → List Int → Option (Bool)
 | 0, _, _, _, _ => none
 | k + 1, x3, Hl, Hg, yx => if x3 < (yx.length : Int) then (if 0 ≤ x3 then ((fK.f (rd yx x3)).bind fun t223 => (if t223 = true then (aG.l0 k (wrap64 (x3 + 1)) Hl Hg yx) else (some false))) else (none)) else (some true)
end
def aG.f (k : Nat) (aT : Int) (aZ : Int) (aX : List Int) : Option (Bool) := if aT < 1 then (aG.j0 k true aT aZ aX) else (if aT > 8 then (aG.j0 k true aT aZ aX) else (if aZ < 1 then (aG.j0 k true aT aZ aX) else (if aZ > 8 then (aG.j0 k true aT aZ aX) else (aG.j0 k ((aX.length : Int) != (wrap64 (aT * aZ))) aT aZ aX))))
theorem aG.TI : ∀ k, (∀ y0 y1 y2 y3, pM (aG.j0 k y0 y1 y2 y3) (aG.j0 (k + 1) y0 y1 y2 y3)) ∧ (∀ y0 y1 y2 y3, pM (aG.l0 k y0 y1 y2 y3) (aG.l0 (k + 1) y0 y1 y2 y3))
 | 0 => ⟨fun _ _ _ _ r h => by simp [aG.j0] at h, fun _ _ _ _ r h => by simp [aG.l0] at h⟩
 | k + 1 => by
   obtain ⟨Zr, ih1⟩ := aG.TI k; refine ⟨?_, ?_⟩
   · intro y0 y1 y2 y3
     unfold aG.j0
     repeat' first
     | (with_reducible exact Zr _ _ _ _)
     | (with_reducible exact ih1 _ _ _ _)
     | (with_reducible exact pM.refl _)
     | (with_reducible exact pM.none _)
     | (with_reducible refine pM.ite ?_ ?_)
     | (with_reducible refine pM.bind ?_ (fun _ => ?_))
     | exact Zr _ _ _ _
     | exact ih1 _ _ _ _
     | exact pM.none _
     | refine pM.ite ?_ ?_
     | refine pM.bind ?_ (fun _ => ?_)
   · intro y0 y1 y2 y3
     unfold aG.l0
     repeat' first
     | (with_reducible exact Zr _ _ _ _)
     | (with_reducible exact ih1 _ _ _ _)
     | (with_reducible exact pM.refl _)
     | (with_reducible exact pM.none _)
     | (with_reducible refine pM.ite ?_ ?_)
     | (with_reducible refine pM.bind ?_ (fun _ => ?_))
     | exact Zr _ _ _ _
     | exact ih1 _ _ _ _
     | exact pM.none _
     | refine pM.ite ?_ ?_
     | refine pM.bind ?_ (fun _ => ?_)
theorem aG.mono : ∀ a0 a1 a2 k, pM (aG.f k a0 a1 a2) (aG.f (k + 1) a0 a1 a2) := by
 intro a0 a1 a2 k; obtain ⟨Zr, ih1⟩ := aG.TI k
 unfold aG.f
 repeat' first
  | (with_reducible exact Zr _ _ _ _)
  | (with_reducible exact ih1 _ _ _ _)
  | (with_reducible exact pM.refl _)
  | (with_reducible exact pM.none _)
  | (with_reducible refine pM.ite ?_ ?_)
  | (with_reducible refine pM.bind ?_ (fun _ => ?_))
  | exact Zr _ _ _ _
  | exact ih1 _ _ _ _
  | exact pM.none _
  | refine pM.ite ?_ ?_
  | refine pM.bind ?_ (fun _ => ?_)
theorem aG.calls (k : Nat) (aT : Int) (aZ : Int) (bK : Option Addr) (bJ : Nat) (aX : List Int) (r : Bool) (w : World) (iW : Kd.C (Kd.int .i64) w bK aX.length aX) (jy : aX.length ≤ bJ) (h : aG.f k aT aZ aX = some r) :
 Calls Tryz.prog 77 #[.agg #[.int .i64 aT, .int .i64 aZ, .slice bK aX.length bJ]] w fun e w' => e = .returned (.bool r) ∧ Below w.heap.size w w' := by
 have Ip := Tryz.underlying29; have mF := aj.mk iW; have oP := aj.mk jy; clear iW jy; have HB := aj.mk (Below.refl w.heap.size w); have H : (if aT < 1 then (aG.j0 k true aT aZ aX) else (if aT > 8 then (aG.j0 k true aT aZ aX) else (if aZ < 1 then (aG.j0 k true aT aZ aX) else (if aZ > 8 then (aG.j0 k true aT aZ aX) else (aG.j0 k ((aX.length : Int) != (wrap64 (aT * aZ))) aT aZ aX))))) = some r := h; clear h; have HC2 := aj.mk H; clear H
 go_enter Tryz.func77, Tryz.ntmps77
 go_upto_region 1 with (first | ((with_reducible refine dG (N := 1) rfl ?_); (try (refine lZ (by rfl) ?_; dsimp only)); refine cu ?hg (N := 1) ?hd (cs := #[.int .i64 aT, .int .i64 aZ, .slice bK aX.length bJ]) (t := 29) ?hr ?_; (case hd => rfl); (case hg => rfl); (case hr => first | (go_simp; done) | (go_simp; rfl)); intro jk hg w3 hbox hb; have bF := aj.mk (aP (by repeat (first | (with_reducible first | exact HB.out | apply ak | apply ah | apply au) | exact HB.out)) hb); have dS := aj.mk (hbox); have eF := aj.mk ((by rw [hg]; exact (bf (by repeat (first | (with_reducible first | exact HB.out | apply ak | apply ah | apply au) | exact HB.out))) : w.heap.size ≤ jk)); have fP := aj.mk ((by rw [hg]; exact (bf (by repeat (first | (with_reducible first | exact HB.out | apply ak | apply ah | apply au) | exact HB.out))) : w.heap.size ≤ jk)); clear HB; have HB := bF; have dV := dS; have akM := eF; have xW := fP; clear bF dS eF fP; clear hb hbox hg))
 (try simp only [Act.put, List.setIfInBounds_toArray, List.set_cons_zero, List.set_cons_succ])
 go_cut [33] (fun v33 wc => ∃ (kq : Nat) (OT : Bool), v33 = .bool OT ∧ aj (aG.j0 kq OT aT aZ aX = some r) ∧ aj (kq ≤ k) ∧ aj (wc.heap[jk]? = some (.cells #[.int .i64 aT, .int .i64 aZ, (.slice bK aX.length bJ)] 29 (0, 0))) ∧ aj (Below w.heap.size w wc))
 case first =>
  have H := HC2.out; clear HC2
  by_cases c4 : aT < 1
  · rw [if_pos c4] at H
    have vP : decide (aT < 1) = true := decide_eq_true c4; clear c4
    (first | rw [vP] | (simp only [dA, dB]; rw [vP]) | skip)
    have H' := aj.mk H; clear H; have NY : w3.cell? ⟨jk, 0, none⟩ = some (.int .i64 aT) := (az dV.out 0).trans rfl; have NW : w3.cell? ⟨jk, 1, none⟩ = some (.int .i64 aZ) := (az dV.out 1).trans rfl; have NV : w3.cell? ⟨jk, 2, none⟩ = some (.slice bK aX.length bJ) := (az dV.out 2).trans rfl; have NJ := ay dV.out 0; have NI := ay dV.out 1; have NH := ay dV.out 2; go_wp2
    go_meet
    case rel => exact ⟨_, (true), (by first | rfl | (simp; done) | (simp [*]; done)), H', ⟨by first | omega | exact Nat.le_refl _⟩, ⟨by (with_reducible repeat (first | refine aB ?_ _ | refine aF ?_ | refine aC ?_ _)); exact dV.out⟩, ⟨by repeat (first | (with_reducible first | exact HB.out | apply ak | apply ah | apply au | refine aA ?_ xW.out) | exact HB.out)⟩⟩
  · rw [if_neg c4] at H
    have vP : decide (aT < 1) = false := decide_eq_false c4; clear c4
    (first | rw [vP] | (simp only [dA, dB]; rw [vP]) | skip)
    by_cases c6 : aT > 8
    · rw [if_pos c6] at H
      have ql : decide (8 < aT) = true := decide_eq_true c6; clear c6; have H' := aj.mk H; clear H; have Um : w3.cell? ⟨jk, 0, none⟩ = some (.int .i64 aT) := (az dV.out 0).trans rfl; have Ul : w3.cell? ⟨jk, 1, none⟩ = some (.int .i64 aZ) := (az dV.out 1).trans rfl; have Uk : w3.cell? ⟨jk, 2, none⟩ = some (.slice bK aX.length bJ) := (az dV.out 2).trans rfl; have Uh := ay dV.out 0; have Ug := ay dV.out 1; have Uf := ay dV.out 2; go_wp2
      go_meet
      case rel => exact ⟨_, (true), (by first | rfl | (simp; done) | (simp [*]; done)), H', ⟨by first | omega | exact Nat.le_refl _⟩, ⟨by (with_reducible repeat (first | refine aB ?_ _ | refine aF ?_ | refine aC ?_ _)); exact dV.out⟩, ⟨by repeat (first | (with_reducible first | exact HB.out | apply ak | apply ah | apply au | refine aA ?_ xW.out) | exact HB.out)⟩⟩
    · rw [if_neg c6] at H
      have ql : decide (8 < aT) = false := decide_eq_false c6; clear c6
      by_cases c8 : aZ < 1
      · rw [if_pos c8] at H
        have zV : decide (aZ < 1) = true := decide_eq_true c8; clear c8; have H' := aj.mk H; clear H; have tZ : w3.cell? ⟨jk, 0, none⟩ = some (.int .i64 aT) := (az dV.out 0).trans rfl; have vJ : w3.cell? ⟨jk, 1, none⟩ = some (.int .i64 aZ) := (az dV.out 1).trans rfl; have vI : w3.cell? ⟨jk, 2, none⟩ = some (.slice bK aX.length bJ) := (az dV.out 2).trans rfl; have tY := ay dV.out 0; have vF := ay dV.out 1; have vC := ay dV.out 2; go_wp2
        go_meet
        case rel => exact ⟨_, (true), (by first | rfl | (simp; done) | (simp [*]; done)), H', ⟨by first | omega | exact Nat.le_refl _⟩, ⟨by (with_reducible repeat (first | refine aB ?_ _ | refine aF ?_ | refine aC ?_ _)); exact dV.out⟩, ⟨by repeat (first | (with_reducible first | exact HB.out | apply ak | apply ah | apply au | refine aA ?_ xW.out) | exact HB.out)⟩⟩
      · rw [if_neg c8] at H
        have zV : decide (aZ < 1) = false := decide_eq_false c8; clear c8
        by_cases c10 : aZ > 8
        · rw [if_pos c10] at H
          have vT : decide (8 < aZ) = true := decide_eq_true c10; clear c10; have H' := aj.mk H; clear H; have Cm : w3.cell? ⟨jk, 0, none⟩ = some (.int .i64 aT) := (az dV.out 0).trans rfl; have Cj : w3.cell? ⟨jk, 1, none⟩ = some (.int .i64 aZ) := (az dV.out 1).trans rfl; have Ci : w3.cell? ⟨jk, 2, none⟩ = some (.slice bK aX.length bJ) := (az dV.out 2).trans rfl; have Ce := ay dV.out 0; have Cc := ay dV.out 1; have Cb := ay dV.out 2; go_wp2
          go_meet
          case rel => exact ⟨_, (true), (by first | rfl | (simp; done) | (simp [*]; done)), H', ⟨by first | omega | exact Nat.le_refl _⟩, ⟨by (with_reducible repeat (first | refine aB ?_ _ | refine aF ?_ | refine aC ?_ _)); exact dV.out⟩, ⟨by repeat (first | (with_reducible first | exact HB.out | apply ak | apply ah | apply au | refine aA ?_ xW.out) | exact HB.out)⟩⟩
        · rw [if_neg c10] at H
          have vT : decide (8 < aZ) = false := decide_eq_false c10; clear c10; have H' := aj.mk H; clear H; have o9 : w3.cell? ⟨jk, 0, none⟩ = some (.int .i64 aT) := (az dV.out 0).trans rfl; have oZ : w3.cell? ⟨jk, 1, none⟩ = some (.int .i64 aZ) := (az dV.out 1).trans rfl; have oW : w3.cell? ⟨jk, 2, none⟩ = some (.slice bK aX.length bJ) := (az dV.out 2).trans rfl; have oV := ay dV.out 0; have oU := ay dV.out 1; have oQ := ay dV.out 2; go_wp2
          go_meet
          case rel => exact ⟨_, (((aX.length : Int) != (wrap64 (aT * aZ)))), (by first | rfl | (simp; done) | (simp [*]; done)), H', ⟨by first | omega | exact Nat.le_refl _⟩, ⟨by (with_reducible repeat (first | refine aB ?_ _ | refine aF ?_ | refine aC ?_ _)); exact dV.out⟩, ⟨by repeat (first | (with_reducible first | exact HB.out | apply ak | apply ah | apply au | refine aA ?_ xW.out) | exact HB.out)⟩⟩
 case rest =>
  clear HC2; (try clear c1); (try clear p2); (try clear c4); (try clear vP); (try clear c6); (try clear ql); (try clear p6); (try clear c7); (try clear c8); (try clear zV); (try clear c10); (try clear vT); (try clear Cm); (try clear Cj); (try clear Ci); (try clear o9); (try clear oZ); (try clear oW); (try clear NY); (try clear NW); (try clear NV); (try clear Um); (try clear Ul); (try clear Uk); (try clear tZ); (try clear vJ); (try clear vI); (try clear Ce); (try clear Cc); (try clear Cb); (try clear oV); (try clear oU); (try clear oQ); (try clear NJ); (try clear NI); (try clear NH); (try clear Uh); (try clear Ug); (try clear Uf); (try clear tY); (try clear vF); (try clear vC); obtain ⟨kq, OT, rfl, HA, HJ1, dV, HB⟩ := hcut
  cases kq with
  | zero => exact absurd HA.out (by simp [aG.j0])
  | succ kj1 =>
    have H := HA.out; clear HA; simp only [aG.j0] at H
    by_cases c13 : OT = true
    · subst c13
      rw [if_pos rfl] at H; obtain rfl := Option.some.inj H; go_wp2
      go_ret
      exact ⟨by first | rfl | (simp [aO, aN] <;> rfl) | (simp [*, aO, aN] <;> rfl), by repeat (first | (with_reducible first | exact HB.out | apply ak | apply ah | apply au | refine aA ?_ xW.out) | exact HB.out)⟩
    · replace c13 := Bool.eq_false_iff.mpr c13
      subst c13
      have H1 : (aG.l0 kj1 0 aT aZ aX) = some r := by rw [if_neg (show ¬ (false = true) by decide)] at H; exact H
      clear H; have H := H1; clear H1; have H' := aj.mk H; clear H; go_wp2
      go_loopg [3] kj1 (fun kq v3 w' => ∃ (rF : Int), v3 = .int .i64 rF ∧ aj (aG.l0 kq rF aT aZ aX = some r) ∧ aj (kq ≤ kj1) ∧ aj (w'.heap[jk]? = some (.cells #[.int .i64 aT, .int .i64 aZ, (.slice bK aX.length bJ)] 29 (0, 0))) ∧ aj (Below w.heap.size w w'))
      case atStart => exact ⟨(0), (by first | rfl | (simp; done) | (simp [*]; done)), H', ⟨Nat.le_refl _⟩, ⟨by (with_reducible repeat (first | refine aB ?_ _ | refine aF ?_ | refine aC ?_ _)); exact dV.out⟩, ⟨by repeat (first | (with_reducible first | exact HB.out | apply ak | apply ah | apply au | refine aA ?_ xW.out) | exact HB.out)⟩⟩
      case round =>
       clear H'; (try clear c1); (try clear p2); (try clear c4); (try clear vP); (try clear c6); (try clear ql); (try clear p6); (try clear c7); (try clear c8); (try clear zV); (try clear c10); (try clear vT); (try clear c13); (try clear Cm); (try clear Cj); (try clear Ci); (try clear o9); (try clear oZ); (try clear oW); (try clear NY); (try clear NW); (try clear NV); (try clear Um); (try clear Ul); (try clear Uk); (try clear tZ); (try clear vJ); (try clear vI); (try clear Ce); (try clear Cc); (try clear Cb); (try clear oV); (try clear oU); (try clear oQ); (try clear NJ); (try clear NI); (try clear NH); (try clear Uh); (try clear Ug); (try clear Uf); (try clear tY); (try clear vF); (try clear vC); (try clear p2); (try clear p6); obtain ⟨rF, rfl, HA, Jz, dV, HB⟩ := hrel
       cases gk with
       | zero => exact absurd HA.out (by simp [aG.l0])
       | succ k2 =>
         have H := HA.out; clear HA; simp only [aG.l0] at H
         by_cases c14 : rF < (aX.length : Int)
         · rw [if_pos c14] at H
           have oM : decide (rF < (aX.length : Int)) = true := decide_eq_true c14; clear c14
           by_cases c15 : 0 ≤ rF
           · rw [if_pos c15] at H
             have UY : decide (0 ≤ rF) = true := decide_eq_true c15; clear c15; replace H := Option.bind_eq_some_iff.mp H; obtain ⟨t223, Lm, H⟩ := H; replace H : (if t223 = true then (aG.l0 k2 (wrap64 (rF + 1)) aT aZ aX) else (some false)) = some r := H; have Qb := aj.mk Lm; clear Lm
             by_cases c17 : t223 = true
             · subst c17
               rw [if_pos rfl] at H; have H' := aj.mk H; clear H; have Px : wr.cell? ⟨jk, 0, none⟩ = some (.int .i64 aT) := (az dV.out 0).trans rfl; have Xn : wr.cell? ⟨jk, 1, none⟩ = some (.int .i64 aZ) := (az dV.out 1).trans rfl; have Xm : wr.cell? ⟨jk, 2, none⟩ = some (.slice bK aX.length bJ) := (az dV.out 2).trans rfl; have Pv := ay dV.out 0; have WT := ay dV.out 1; have WS := ay dV.out 2; have Nb : 0 ≤ (rF : Int) := of_decide_eq_true (by first | (with_reducible assumption) | assumption); have MM : rF < (aX.length : Int) := of_decide_eq_true (by first | (with_reducible assumption) | assumption); obtain ⟨acE, e222, tN⟩ := Kd.iK mF.out rF Nb MM
               cases e222
               replace tN := (HB.out.cell (World.block_lt_of_cell? w _ tN)).trans tN; replace Nb := eq_true Nb; replace MM := eq_true MM
               go_wp2_with (first | ((with_reducible refine aH (f := 51) rfl ?_); refine bg (some 46) rfl rfl Tryz.func51 (by kernel_rfl) rfl #[.int .i64 (rd aX rF)] rfl (by (try simp only [List.map_toArray, List.map_cons, List.map_nil]); first | done | rfl | (simp only [List.length_drop, List.length_take]; rfl)) ?_; (with_reducible refine (fK.calls (rd aX rF) true _ Qb.out).mono ?_); rintro e w' ⟨rfl, ⟨nd, rfl⟩⟩; refine ⟨_, rfl, ?_⟩))
               go_roundg k2
               case measure => have := HJ1.out; have := Jz.out; omega
               case rel => exact ⟨(wrap64 (rF + 1)), (by first | rfl | (simp; done) | (simp [*]; done)), H', ⟨by have := HJ1.out; have := Jz.out; omega⟩, ⟨by (with_reducible repeat (first | refine aB ?_ _ | refine aF ?_ | refine aC ?_ _)); exact dV.out⟩, ⟨by repeat (first | (with_reducible first | exact HB.out | apply ak | apply ah | apply au | refine aA ?_ xW.out) | exact HB.out)⟩⟩
             · replace c17 := Bool.eq_false_iff.mpr c17
               subst c17
               have H1 : (some false) = some r := by rw [if_neg (show ¬ (false = true) by decide)] at H; exact H
               clear H; have H := H1; clear H1; obtain rfl := Option.some.inj H; have Xl : wr.cell? ⟨jk, 0, none⟩ = some (.int .i64 aT) := (az dV.out 0).trans rfl; have Xk : wr.cell? ⟨jk, 1, none⟩ = some (.int .i64 aZ) := (az dV.out 1).trans rfl; have Xj : wr.cell? ⟨jk, 2, none⟩ = some (.slice bK aX.length bJ) := (az dV.out 2).trans rfl; have WR := ay dV.out 0; have WQ := ay dV.out 1; have WO := ay dV.out 2; have Nb : 0 ≤ (rF : Int) := of_decide_eq_true (by first | (with_reducible assumption) | assumption); have MM : rF < (aX.length : Int) := of_decide_eq_true (by first | (with_reducible assumption) | assumption); obtain ⟨acE, e222, tN⟩ := Kd.iK mF.out rF Nb MM
               cases e222
               replace tN := (HB.out.cell (World.block_lt_of_cell? w _ tN)).trans tN; replace Nb := eq_true Nb; replace MM := eq_true MM
               go_wp2_with (first | ((with_reducible refine aH (f := 51) rfl ?_); refine bg (some 46) rfl rfl Tryz.func51 (by kernel_rfl) rfl #[.int .i64 (rd aX rF)] rfl (by (try simp only [List.map_toArray, List.map_cons, List.map_nil]); first | done | rfl | (simp only [List.length_drop, List.length_take]; rfl)) ?_; (with_reducible refine (fK.calls (rd aX rF) false _ Qb.out).mono ?_); rintro e w' ⟨rfl, ⟨nd, rfl⟩⟩; refine ⟨_, rfl, ?_⟩))
               go_ret
               exact ⟨by first | rfl | (simp [aO, aN] <;> rfl) | (simp [*, aO, aN] <;> rfl), by repeat (first | (with_reducible first | exact HB.out | apply ak | apply ah | apply au | refine aA ?_ xW.out) | exact HB.out)⟩
           · rw [if_neg c15] at H
             exact absurd H (by simp)
         · rw [if_neg c14] at H
           have oM : decide (rF < (aX.length : Int)) = false := decide_eq_false c14; clear c14; obtain rfl := Option.some.inj H; have afu : wr.cell? ⟨jk, 0, none⟩ = some (.int .i64 aT) := (az dV.out 0).trans rfl; have aft : wr.cell? ⟨jk, 1, none⟩ = some (.int .i64 aZ) := (az dV.out 1).trans rfl; have afs : wr.cell? ⟨jk, 2, none⟩ = some (.slice bK aX.length bJ) := (az dV.out 2).trans rfl; have aeS := ay dV.out 0; have aeR := ay dV.out 1; have aeQ := ay dV.out 2; go_wp2
           go_ret
           exact ⟨by first | rfl | (simp [aO, aN] <;> rfl) | (simp [*, aO, aN] <;> rfl), by repeat (first | (with_reducible first | exact HB.out | apply ak | apply ah | apply au | refine aA ?_ xW.out) | exact HB.out)⟩
end Go.Proofs.YtcfobekkchhbbaaGreat.PQ

namespace Go.Proofs.YtcfobekkchhbbaaGreat.PQ
open Go.RowKit Go.Proofs.af.aK Go.Proofs.af.aV Go.Proofs.af.aW
attribute [local go_sem] iH iF jJ jI gU gK iG iE
set_option linter.unusedVariables false
set_option linter.unusedSimpArgs false
mutual
def aJ.j0 : Nat → Int → Bool → Int → Int → List Int → Int → Int → List Int → Option (Bool)
 | 0, _, _, _, _, _, _, _, _ => none
 | k + 1, x5, x42, wG, wF, wE, wC, wB, lJ => if x42 = true then (some false) else (aJ.l0 k x5 0 wG wF wE wC wB lJ)
def aJ.l0 : Nat → Int → Int → Int → Int → List Int → Int → Int → List Int → Option (Bool)
 | 0, _, _, _, _, _, _, _, _ => none
 | k + 1, x5, x6, wG, wF, wE, wC, wB, lJ => if x6 < x5 then (if 0 ≤ (wrap64 ((wrap64 (x6 * x5)) + x6)) then (if (wrap64 ((wrap64 (x6 * x5)) + x6)) < (lJ.length : Int) then (if (rd lJ (wrap64 ((wrap64 (x6 * x5)) + x6))) < 0 then (some false) else (aJ.l1 k x5 x6 0 wG wF wE wC wB lJ)) else (none)) else (none)) else (some true)
def aJ.l1 : Nat → Int → Int → Int → Int → Int → List Int → Int → Int → List Int → Option (Bool)
 | 0, _, _, _, _, _, _, _, _, _ => none
 | k + 1, x5, x6, x7, wG, wF, wE, wC, wB, lJ => if x7 < x6 then (if 0 ≤ (wrap64 ((wrap64 (x6 * x5)) + x7)) then (if (wrap64 ((wrap64 (x6 * x5)) + x7)) < (lJ.length : Int) then (if 0 ≤ (wrap64 ((wrap64 (x7 * x5)) + x6)) then (if (wrap64 ((wrap64 (x7 * x5)) + x6)) < (lJ.length : Int) then (if (rd lJ (wrap64 ((wrap64 (x6 * x5)) + x7))) = (rd lJ (wrap64 ((wrap64 (x7 * x5)) + x6))) then (aJ.l1 k x5 x6 (wrap64 (x7 + 1)) wG wF wE wC wB lJ) else (some false)) else (none)) else (none)) else (none)) else (none)) else (aJ.l0 k x5 (wrap64 (x6 + 1)) wG wF wE wC wB lJ)
end
def aJ.f (k : Nat) (aT : Int) (aZ : Int) (aX : List Int) (b_ : Int) (dw : Int) (bQ : List Int) : Option (Bool) := (aG.f k aT aZ aX).bind fun t225 => ((aG.f k b_ dw bQ).bind fun t226 => (if t225 = true then (if t226 = true then (if aZ = 1 then (if b_ = aT then (aJ.j0 k aT (dw != aT) aT aZ aX b_ dw bQ) else (aJ.j0 k aT true aT aZ aX b_ dw bQ)) else (aJ.j0 k aT true aT aZ aX b_ dw bQ)) else (aJ.j0 k aT true aT aZ aX b_ dw bQ)) else (aJ.j0 k aT true aT aZ aX b_ dw bQ)))
theorem aJ.calls (k : Nat) (aT : Int) (aZ : Int) (bK : Option Addr) (bJ : Nat) (aX : List Int) (b_ : Int) (dw : Int) (iq : Option Addr) (gI : Nat) (bQ : List Int) (r : Bool) (w : World) (iW : Kd.C (Kd.int .i64) w bK aX.length aX) (jy : aX.length ≤ bJ) (AO : Kd.C (Kd.int .i64) w iq bQ.length bQ) (AP : bQ.length ≤ gI) (h : aJ.f k aT aZ aX b_ dw bQ = some r) :
 Calls Tryz.prog 35 #[.agg #[.int .i64 aT, .int .i64 aZ, .slice bK aX.length bJ, .int .i64 b_, .int .i64 dw, .slice iq bQ.length gI]] w fun e w' => e = .returned (.bool r) ∧ Below w.heap.size w w' := by
 have abK := Tryz.underlying31; have Ip := Tryz.underlying29; have mF := aj.mk iW; have oP := aj.mk jy; clear iW jy; have uz := aj.mk AO; have GV := aj.mk AP; clear AO AP; have HB := aj.mk (Below.refl w.heap.size w); have H : ((aG.f k aT aZ aX).bind fun t225 => ((aG.f k b_ dw bQ).bind fun t226 => (if t225 = true then (if t226 = true then (if aZ = 1 then (if b_ = aT then (aJ.j0 k aT (dw != aT) aT aZ aX b_ dw bQ) else (aJ.j0 k aT true aT aZ aX b_ dw bQ)) else (aJ.j0 k aT true aT aZ aX b_ dw bQ)) else (aJ.j0 k aT true aT aZ aX b_ dw bQ)) else (aJ.j0 k aT true aT aZ aX b_ dw bQ)))) = some r := h; clear h; replace H := Option.bind_eq_some_iff.mp H; obtain ⟨t225, YS, H⟩ := H; replace H : ((aG.f k b_ dw bQ).bind fun t226 => (if t225 = true then (if t226 = true then (if aZ = 1 then (if b_ = aT then (aJ.j0 k aT (dw != aT) aT aZ aX b_ dw bQ) else (aJ.j0 k aT true aT aZ aX b_ dw bQ)) else (aJ.j0 k aT true aT aZ aX b_ dw bQ)) else (aJ.j0 k aT true aT aZ aX b_ dw bQ)) else (aJ.j0 k aT true aT aZ aX b_ dw bQ))) = some r := H; have A2 := aj.mk YS; clear YS; replace H := Option.bind_eq_some_iff.mp H; obtain ⟨t226, BC, H⟩ := H; replace H : (if t225 = true then (if t226 = true then (if aZ = 1 then (if b_ = aT then (aJ.j0 k aT (dw != aT) aT aZ aX b_ dw bQ) else (aJ.j0 k aT true aT aZ aX b_ dw bQ)) else (aJ.j0 k aT true aT aZ aX b_ dw bQ)) else (aJ.j0 k aT true aT aZ aX b_ dw bQ)) else (aJ.j0 k aT true aT aZ aX b_ dw bQ)) = some r := H; have A3 := aj.mk BC; clear BC; have HC4 := aj.mk H; clear H
 go_enter Tryz.func35, Tryz.ntmps35
 go_upto_region 4 with (first | ((with_reducible refine dG (N := 1) rfl ?_); refine cu ?hg (N := 1) ?hd (cs := #[.int .i64 aT, .int .i64 aZ, .slice bK aX.length bJ, .int .i64 b_, .int .i64 dw, .slice iq bQ.length gI]) (t := 31) ?hr ?_; (case hd => rfl); (case hg => rfl); (case hr => first | (go_simp; done) | (go_simp; rfl)); intro bD hg w5 hbox hb; have bF := aj.mk (aP (by repeat (first | (with_reducible first | exact HB.out | apply ak | apply ah | apply au) | exact HB.out)) hb); have dS := aj.mk (hbox); have eF := aj.mk ((by rw [hg]; exact (bf (by repeat (first | (with_reducible first | exact HB.out | apply ak | apply ah | apply au) | exact HB.out))) : w.heap.size ≤ bD)); have fP := aj.mk ((by rw [hg]; exact (bf (by repeat (first | (with_reducible first | exact HB.out | apply ak | apply ah | apply au) | exact HB.out))) : w.heap.size ≤ bD)); clear HB; have HB := bF; have aU := dS; have YO := eF; have lI := fP; clear bF dS eF fP; clear hb hbox hg; have vM : w5.cell? ⟨bD, 0, none⟩ = some (.int .i64 aT) := (az aU.out 0).trans rfl; have vK : w5.cell? ⟨bD, 1, none⟩ = some (.int .i64 aZ) := (az aU.out 1).trans rfl; have yf : w5.cell? ⟨bD, 2, none⟩ = some (.slice bK aX.length bJ) := (az aU.out 2).trans rfl; have Ei : w5.cell? ⟨bD, 3, none⟩ = some (.int .i64 b_) := (az aU.out 3).trans rfl; have Eh : w5.cell? ⟨bD, 4, none⟩ = some (.int .i64 dw) := (az aU.out 4).trans rfl; have Ef : w5.cell? ⟨bD, 5, none⟩ = some (.slice iq bQ.length gI) := (az aU.out 5).trans rfl; have vH := ay aU.out 0; have vG := ay aU.out 1; have yc := ay aU.out 2; have D8 := ay aU.out 3; have D7 := ay aU.out 4; have D6 := ay aU.out 5) | (go_at_call 77; (with_reducible refine (aG.calls k aT aZ _ _ aX t225 _ ?gm ?f_ A2.out).mono ?_); (case gm => repeat (first | exact (Kd.fQ mF.out HB.out) | (with_reducible refine Kd.gZ ?_ _) | (with_reducible refine Kd.gY ?_ _) | (with_reducible refine Kd.ji ?_))); (case f_ => exact oP.out); rintro e w7 ⟨rfl, hb⟩; have bF := aj.mk (bz (g := bD) (o := .cells #[.int .i64 aT, .int .i64 aZ, .slice bK aX.length bJ, .int .i64 b_, .int .i64 dw, .slice iq bQ.length gI] 31 (0, 0)) (by (with_reducible repeat (first | refine aB ?_ _ | refine aF ?_ | refine aC ?_ _)); exact aU.out) hb); have dS := aj.mk (aP (by repeat (first | (with_reducible first | exact HB.out | apply ak | apply ah | apply au | refine aA ?_ lI.out) | exact HB.out)) hb); clear aU; clear HB; have aU := bF; have HB := dS; clear bF dS; (try clear hb); (try clear hb2); (try clear hk); (try clear hi); have Ee : w7.cell? ⟨bD, 0, none⟩ = some (.int .i64 aT) := (az aU.out 0).trans rfl; have Ed : w7.cell? ⟨bD, 1, none⟩ = some (.int .i64 aZ) := (az aU.out 1).trans rfl; have Ec : w7.cell? ⟨bD, 2, none⟩ = some (.slice bK aX.length bJ) := (az aU.out 2).trans rfl; have Eb : w7.cell? ⟨bD, 3, none⟩ = some (.int .i64 b_) := (az aU.out 3).trans rfl; have Ea : w7.cell? ⟨bD, 4, none⟩ = some (.int .i64 dw) := (az aU.out 4).trans rfl; have D_ : w7.cell? ⟨bD, 5, none⟩ = some (.slice iq bQ.length gI) := (az aU.out 5).trans rfl; have D5 := ay aU.out 0; have DZ := ay aU.out 1; have DY := ay aU.out 2; have DW := ay aU.out 3; have DU := ay aU.out 4; have DT := ay aU.out 5) | (go_at_call 77; (with_reducible refine (aG.calls k b_ dw _ _ bQ t226 _ ?gm ?f_ A3.out).mono ?_); (case gm => repeat (first | exact (Kd.fQ uz.out HB.out) | (with_reducible refine Kd.gZ ?_ _) | (with_reducible refine Kd.gY ?_ _) | (with_reducible refine Kd.ji ?_))); (case f_ => exact GV.out); rintro e w9 ⟨rfl, hb⟩; have bF := aj.mk (bz (g := bD) (o := .cells #[.int .i64 aT, .int .i64 aZ, .slice bK aX.length bJ, .int .i64 b_, .int .i64 dw, .slice iq bQ.length gI] 31 (0, 0)) (by (with_reducible repeat (first | refine aB ?_ _ | refine aF ?_ | refine aC ?_ _)); exact aU.out) hb); have dS := aj.mk (aP (by repeat (first | (with_reducible first | exact HB.out | apply ak | apply ah | apply au | refine aA ?_ lI.out) | exact HB.out)) hb); clear aU; clear HB; have aU := bF; have HB := dS; clear bF dS; (try clear hb); (try clear hb2); (try clear hk); (try clear hi); have nG : w9.cell? ⟨bD, 0, none⟩ = some (.int .i64 aT) := (az aU.out 0).trans rfl; have nD : w9.cell? ⟨bD, 1, none⟩ = some (.int .i64 aZ) := (az aU.out 1).trans rfl; have nC : w9.cell? ⟨bD, 2, none⟩ = some (.slice bK aX.length bJ) := (az aU.out 2).trans rfl; have qN : w9.cell? ⟨bD, 3, none⟩ = some (.int .i64 b_) := (az aU.out 3).trans rfl; have qM : w9.cell? ⟨bD, 4, none⟩ = some (.int .i64 dw) := (az aU.out 4).trans rfl; have qL : w9.cell? ⟨bD, 5, none⟩ = some (.slice iq bQ.length gI) := (az aU.out 5).trans rfl; have ni := ay aU.out 0; have ng := ay aU.out 1; have m_ := ay aU.out 2; have qK := ay aU.out 3; have qJ := ay aU.out 4; have qI := ay aU.out 5))
 repeat (go_quiet (first | ((with_reducible refine dG (N := 1) rfl ?_); refine cu ?hg (N := 1) ?hd (cs := #[.int .i64 aT, .int .i64 aZ, .slice bK aX.length bJ, .int .i64 b_, .int .i64 dw, .slice iq bQ.length gI]) (t := 31) ?hr ?_; (case hd => rfl); (case hg => rfl); (case hr => first | (go_simp; done) | (go_simp; rfl)); intro bD hg w5 hbox hb; have bF := aj.mk (aP (by repeat (first | (with_reducible first | exact HB.out | apply ak | apply ah | apply au) | exact HB.out)) hb); have dS := aj.mk (hbox); have eF := aj.mk ((by rw [hg]; exact (bf (by repeat (first | (with_reducible first | exact HB.out | apply ak | apply ah | apply au) | exact HB.out))) : w.heap.size ≤ bD)); have fP := aj.mk ((by rw [hg]; exact (bf (by repeat (first | (with_reducible first | exact HB.out | apply ak | apply ah | apply au) | exact HB.out))) : w.heap.size ≤ bD)); clear HB; have HB := bF; have aU := dS; have YO := eF; have lI := fP; clear bF dS eF fP; clear hb hbox hg; have vM : w5.cell? ⟨bD, 0, none⟩ = some (.int .i64 aT) := (az aU.out 0).trans rfl; have vK : w5.cell? ⟨bD, 1, none⟩ = some (.int .i64 aZ) := (az aU.out 1).trans rfl; have yf : w5.cell? ⟨bD, 2, none⟩ = some (.slice bK aX.length bJ) := (az aU.out 2).trans rfl; have Ei : w5.cell? ⟨bD, 3, none⟩ = some (.int .i64 b_) := (az aU.out 3).trans rfl; have Eh : w5.cell? ⟨bD, 4, none⟩ = some (.int .i64 dw) := (az aU.out 4).trans rfl; have Ef : w5.cell? ⟨bD, 5, none⟩ = some (.slice iq bQ.length gI) := (az aU.out 5).trans rfl; have vH := ay aU.out 0; have vG := ay aU.out 1; have yc := ay aU.out 2; have D8 := ay aU.out 3; have D7 := ay aU.out 4; have D6 := ay aU.out 5) | (go_at_call 77; (with_reducible refine (aG.calls k aT aZ _ _ aX t225 _ ?gm ?f_ A2.out).mono ?_); (case gm => repeat (first | exact (Kd.fQ mF.out HB.out) | (with_reducible refine Kd.gZ ?_ _) | (with_reducible refine Kd.gY ?_ _) | (with_reducible refine Kd.ji ?_))); (case f_ => exact oP.out); rintro e w7 ⟨rfl, hb⟩; have bF := aj.mk (bz (g := bD) (o := .cells #[.int .i64 aT, .int .i64 aZ, .slice bK aX.length bJ, .int .i64 b_, .int .i64 dw, .slice iq bQ.length gI] 31 (0, 0)) (by (with_reducible repeat (first | refine aB ?_ _ | refine aF ?_ | refine aC ?_ _)); exact aU.out) hb); have dS := aj.mk (aP (by repeat (first | (with_reducible first | exact HB.out | apply ak | apply ah | apply au | refine aA ?_ lI.out) | exact HB.out)) hb); clear aU; clear HB; have aU := bF; have HB := dS; clear bF dS; (try clear hb); (try clear hb2); (try clear hk); (try clear hi); have Ee : w7.cell? ⟨bD, 0, none⟩ = some (.int .i64 aT) := (az aU.out 0).trans rfl; have Ed : w7.cell? ⟨bD, 1, none⟩ = some (.int .i64 aZ) := (az aU.out 1).trans rfl; have Ec : w7.cell? ⟨bD, 2, none⟩ = some (.slice bK aX.length bJ) := (az aU.out 2).trans rfl; have Eb : w7.cell? ⟨bD, 3, none⟩ = some (.int .i64 b_) := (az aU.out 3).trans rfl; have Ea : w7.cell? ⟨bD, 4, none⟩ = some (.int .i64 dw) := (az aU.out 4).trans rfl; have D_ : w7.cell? ⟨bD, 5, none⟩ = some (.slice iq bQ.length gI) := (az aU.out 5).trans rfl; have D5 := ay aU.out 0; have DZ := ay aU.out 1; have DY := ay aU.out 2; have DW := ay aU.out 3; have DU := ay aU.out 4; have DT := ay aU.out 5) | (go_at_call 77; (with_reducible refine (aG.calls k b_ dw _ _ bQ t226 _ ?gm ?f_ A3.out).mono ?_); (case gm => repeat (first | exact (Kd.fQ uz.out HB.out) | (with_reducible refine Kd.gZ ?_ _) | (with_reducible refine Kd.gY ?_ _) | (with_reducible refine Kd.ji ?_))); (case f_ => exact GV.out); rintro e w9 ⟨rfl, hb⟩; have bF := aj.mk (bz (g := bD) (o := .cells #[.int .i64 aT, .int .i64 aZ, .slice bK aX.length bJ, .int .i64 b_, .int .i64 dw, .slice iq bQ.length gI] 31 (0, 0)) (by (with_reducible repeat (first | refine aB ?_ _ | refine aF ?_ | refine aC ?_ _)); exact aU.out) hb); have dS := aj.mk (aP (by repeat (first | (with_reducible first | exact HB.out | apply ak | apply ah | apply au | refine aA ?_ lI.out) | exact HB.out)) hb); clear aU; clear HB; have aU := bF; have HB := dS; clear bF dS; (try clear hb); (try clear hb2); (try clear hk); (try clear hi); have nG : w9.cell? ⟨bD, 0, none⟩ = some (.int .i64 aT) := (az aU.out 0).trans rfl; have nD : w9.cell? ⟨bD, 1, none⟩ = some (.int .i64 aZ) := (az aU.out 1).trans rfl; have nC : w9.cell? ⟨bD, 2, none⟩ = some (.slice bK aX.length bJ) := (az aU.out 2).trans rfl; have qN : w9.cell? ⟨bD, 3, none⟩ = some (.int .i64 b_) := (az aU.out 3).trans rfl; have qM : w9.cell? ⟨bD, 4, none⟩ = some (.int .i64 dw) := (az aU.out 4).trans rfl; have qL : w9.cell? ⟨bD, 5, none⟩ = some (.slice iq bQ.length gI) := (az aU.out 5).trans rfl; have ni := ay aU.out 0; have ng := ay aU.out 1; have m_ := ay aU.out 2; have qK := ay aU.out 3; have qJ := ay aU.out 4; have qI := ay aU.out 5)); go_upto_region 4 with (first | ((with_reducible refine dG (N := 1) rfl ?_); refine cu ?hg (N := 1) ?hd (cs := #[.int .i64 aT, .int .i64 aZ, .slice bK aX.length bJ, .int .i64 b_, .int .i64 dw, .slice iq bQ.length gI]) (t := 31) ?hr ?_; (case hd => rfl); (case hg => rfl); (case hr => first | (go_simp; done) | (go_simp; rfl)); intro bD hg w5 hbox hb; have bF := aj.mk (aP (by repeat (first | (with_reducible first | exact HB.out | apply ak | apply ah | apply au) | exact HB.out)) hb); have dS := aj.mk (hbox); have eF := aj.mk ((by rw [hg]; exact (bf (by repeat (first | (with_reducible first | exact HB.out | apply ak | apply ah | apply au) | exact HB.out))) : w.heap.size ≤ bD)); have fP := aj.mk ((by rw [hg]; exact (bf (by repeat (first | (with_reducible first | exact HB.out | apply ak | apply ah | apply au) | exact HB.out))) : w.heap.size ≤ bD)); clear HB; have HB := bF; have aU := dS; have YO := eF; have lI := fP; clear bF dS eF fP; clear hb hbox hg; have vM : w5.cell? ⟨bD, 0, none⟩ = some (.int .i64 aT) := (az aU.out 0).trans rfl; have vK : w5.cell? ⟨bD, 1, none⟩ = some (.int .i64 aZ) := (az aU.out 1).trans rfl; have yf : w5.cell? ⟨bD, 2, none⟩ = some (.slice bK aX.length bJ) := (az aU.out 2).trans rfl; have Ei : w5.cell? ⟨bD, 3, none⟩ = some (.int .i64 b_) := (az aU.out 3).trans rfl; have Eh : w5.cell? ⟨bD, 4, none⟩ = some (.int .i64 dw) := (az aU.out 4).trans rfl; have Ef : w5.cell? ⟨bD, 5, none⟩ = some (.slice iq bQ.length gI) := (az aU.out 5).trans rfl; have vH := ay aU.out 0; have vG := ay aU.out 1; have yc := ay aU.out 2; have D8 := ay aU.out 3; have D7 := ay aU.out 4; have D6 := ay aU.out 5) | (go_at_call 77; (with_reducible refine (aG.calls k aT aZ _ _ aX t225 _ ?gm ?f_ A2.out).mono ?_); (case gm => repeat (first | exact (Kd.fQ mF.out HB.out) | (with_reducible refine Kd.gZ ?_ _) | (with_reducible refine Kd.gY ?_ _) | (with_reducible refine Kd.ji ?_))); (case f_ => exact oP.out); rintro e w7 ⟨rfl, hb⟩; have bF := aj.mk (bz (g := bD) (o := .cells #[.int .i64 aT, .int .i64 aZ, .slice bK aX.length bJ, .int .i64 b_, .int .i64 dw, .slice iq bQ.length gI] 31 (0, 0)) (by (with_reducible repeat (first | refine aB ?_ _ | refine aF ?_ | refine aC ?_ _)); exact aU.out) hb); have dS := aj.mk (aP (by repeat (first | (with_reducible first | exact HB.out | apply ak | apply ah | apply au | refine aA ?_ lI.out) | exact HB.out)) hb); clear aU; clear HB; have aU := bF; have HB := dS; clear bF dS; (try clear hb); (try clear hb2); (try clear hk); (try clear hi); have Ee : w7.cell? ⟨bD, 0, none⟩ = some (.int .i64 aT) := (az aU.out 0).trans rfl; have Ed : w7.cell? ⟨bD, 1, none⟩ = some (.int .i64 aZ) := (az aU.out 1).trans rfl; have Ec : w7.cell? ⟨bD, 2, none⟩ = some (.slice bK aX.length bJ) := (az aU.out 2).trans rfl; have Eb : w7.cell? ⟨bD, 3, none⟩ = some (.int .i64 b_) := (az aU.out 3).trans rfl; have Ea : w7.cell? ⟨bD, 4, none⟩ = some (.int .i64 dw) := (az aU.out 4).trans rfl; have D_ : w7.cell? ⟨bD, 5, none⟩ = some (.slice iq bQ.length gI) := (az aU.out 5).trans rfl; have D5 := ay aU.out 0; have DZ := ay aU.out 1; have DY := ay aU.out 2; have DW := ay aU.out 3; have DU := ay aU.out 4; have DT := ay aU.out 5) | (go_at_call 77; (with_reducible refine (aG.calls k b_ dw _ _ bQ t226 _ ?gm ?f_ A3.out).mono ?_); (case gm => repeat (first | exact (Kd.fQ uz.out HB.out) | (with_reducible refine Kd.gZ ?_ _) | (with_reducible refine Kd.gY ?_ _) | (with_reducible refine Kd.ji ?_))); (case f_ => exact GV.out); rintro e w9 ⟨rfl, hb⟩; have bF := aj.mk (bz (g := bD) (o := .cells #[.int .i64 aT, .int .i64 aZ, .slice bK aX.length bJ, .int .i64 b_, .int .i64 dw, .slice iq bQ.length gI] 31 (0, 0)) (by (with_reducible repeat (first | refine aB ?_ _ | refine aF ?_ | refine aC ?_ _)); exact aU.out) hb); have dS := aj.mk (aP (by repeat (first | (with_reducible first | exact HB.out | apply ak | apply ah | apply au | refine aA ?_ lI.out) | exact HB.out)) hb); clear aU; clear HB; have aU := bF; have HB := dS; clear bF dS; (try clear hb); (try clear hb2); (try clear hk); (try clear hi); have nG : w9.cell? ⟨bD, 0, none⟩ = some (.int .i64 aT) := (az aU.out 0).trans rfl; have nD : w9.cell? ⟨bD, 1, none⟩ = some (.int .i64 aZ) := (az aU.out 1).trans rfl; have nC : w9.cell? ⟨bD, 2, none⟩ = some (.slice bK aX.length bJ) := (az aU.out 2).trans rfl; have qN : w9.cell? ⟨bD, 3, none⟩ = some (.int .i64 b_) := (az aU.out 3).trans rfl; have qM : w9.cell? ⟨bD, 4, none⟩ = some (.int .i64 dw) := (az aU.out 4).trans rfl; have qL : w9.cell? ⟨bD, 5, none⟩ = some (.slice iq bQ.length gI) := (az aU.out 5).trans rfl; have ni := ay aU.out 0; have ng := ay aU.out 1; have m_ := ay aU.out 2; have qK := ay aU.out 3; have qJ := ay aU.out 4; have qI := ay aU.out 5)))
 (try simp only [Act.put, List.setIfInBounds_toArray, List.set_cons_zero, List.set_cons_succ])
 go_cut [42] (fun v42 wc => ∃ (kq : Nat) (OQ : Bool), v42 = .bool OQ ∧ aj (aJ.j0 kq aT OQ aT aZ aX b_ dw bQ = some r) ∧ aj (kq ≤ k) ∧ aj (wc.heap[bD]? = some (.cells #[.int .i64 aT, .int .i64 aZ, (.slice bK aX.length bJ), .int .i64 b_, .int .i64 dw, (.slice iq bQ.length gI)] 31 (0, 0))) ∧ aj (Below w.heap.size w wc))
 case first =>
  have H := HC4.out; clear HC4
  by_cases c11 : t225 = true
  · subst c11
    rw [if_pos rfl] at H
    by_cases c12 : t226 = true
    · subst c12
      rw [if_pos rfl] at H
      by_cases c13 : aZ = 1
      · rw [if_pos c13] at H
        have xQ : (aZ == 1) = true := beq_iff_eq.mpr c13; have PM : (aZ != 1) = false := bne_eq_false_iff_eq.mpr c13; clear c13
        (first | rw [xQ] | (simp only [dA, dB]; rw [xQ]) | skip)
        by_cases c14 : b_ = aT
        · rw [if_pos c14] at H
          have oM : (b_ == aT) = true := beq_iff_eq.mpr c14; have uw : (b_ != aT) = false := bne_eq_false_iff_eq.mpr c14; clear c14; have H' := aj.mk H; clear H; have w_ : w9.cell? ⟨bD, 0, none⟩ = some (.int .i64 aT) := (az aU.out 0).trans rfl; have wZ : w9.cell? ⟨bD, 1, none⟩ = some (.int .i64 aZ) := (az aU.out 1).trans rfl; have wY : w9.cell? ⟨bD, 2, none⟩ = some (.slice bK aX.length bJ) := (az aU.out 2).trans rfl; have Je : w9.cell? ⟨bD, 3, none⟩ = some (.int .i64 b_) := (az aU.out 3).trans rfl; have Jd : w9.cell? ⟨bD, 4, none⟩ = some (.int .i64 dw) := (az aU.out 4).trans rfl; have Jc : w9.cell? ⟨bD, 5, none⟩ = some (.slice iq bQ.length gI) := (az aU.out 5).trans rfl; have wU := ay aU.out 0; have wS := ay aU.out 1; have wR := ay aU.out 2; have IL := ay aU.out 3; have IK := ay aU.out 4; have IJ := ay aU.out 5; go_wp2
          repeat (go_quiet (fail); try go_wp2)
          go_meet
          case rel => exact ⟨_, ((dw != aT)), (by first | rfl | (simp; done) | (simp [*]; done)), H', ⟨by first | omega | exact Nat.le_refl _⟩, ⟨by (with_reducible repeat (first | refine aB ?_ _ | refine aF ?_ | refine aC ?_ _)); exact aU.out⟩, ⟨by repeat (first | (with_reducible first | exact HB.out | apply ak | apply ah | apply au | refine aA ?_ lI.out) | exact HB.out)⟩⟩
        · rw [if_neg c14] at H
          have oM : (b_ == aT) = false := beq_eq_false_iff_ne.mpr c14; have uw : (b_ != aT) = true := bne_iff_ne.mpr c14; have H' := aj.mk H; clear H; have wX : w9.cell? ⟨bD, 0, none⟩ = some (.int .i64 aT) := (az aU.out 0).trans rfl; have wW : w9.cell? ⟨bD, 1, none⟩ = some (.int .i64 aZ) := (az aU.out 1).trans rfl; have wV : w9.cell? ⟨bD, 2, none⟩ = some (.slice bK aX.length bJ) := (az aU.out 2).trans rfl; have Jb : w9.cell? ⟨bD, 3, none⟩ = some (.int .i64 b_) := (az aU.out 3).trans rfl; have Ja : w9.cell? ⟨bD, 4, none⟩ = some (.int .i64 dw) := (az aU.out 4).trans rfl; have I_ : w9.cell? ⟨bD, 5, none⟩ = some (.slice iq bQ.length gI) := (az aU.out 5).trans rfl; have wQ := ay aU.out 0; have wP := ay aU.out 1; have wO := ay aU.out 2; have II := ay aU.out 3; have IG := ay aU.out 4; have IE := ay aU.out 5; go_wp2
          repeat (go_quiet (fail); try go_wp2)
          go_meet
          case rel => exact ⟨_, (true), (by first | rfl | (simp; done) | (simp [*]; done)), H', ⟨by first | omega | exact Nat.le_refl _⟩, ⟨by (with_reducible repeat (first | refine aB ?_ _ | refine aF ?_ | refine aC ?_ _)); exact aU.out⟩, ⟨by repeat (first | (with_reducible first | exact HB.out | apply ak | apply ah | apply au | refine aA ?_ lI.out) | exact HB.out)⟩⟩
      · rw [if_neg c13] at H
        have xQ : (aZ == 1) = false := beq_eq_false_iff_ne.mpr c13; have PM : (aZ != 1) = true := bne_iff_ne.mpr c13
        (first | rw [xQ] | (simp only [dA, dB]; rw [xQ]) | skip)
        have H' := aj.mk H; clear H; have I9 : w9.cell? ⟨bD, 0, none⟩ = some (.int .i64 aT) := (az aU.out 0).trans rfl; have I8 : w9.cell? ⟨bD, 1, none⟩ = some (.int .i64 aZ) := (az aU.out 1).trans rfl; have I7 : w9.cell? ⟨bD, 2, none⟩ = some (.slice bK aX.length bJ) := (az aU.out 2).trans rfl; have I5 : w9.cell? ⟨bD, 3, none⟩ = some (.int .i64 b_) := (az aU.out 3).trans rfl; have I4 : w9.cell? ⟨bD, 4, none⟩ = some (.int .i64 dw) := (az aU.out 4).trans rfl; have IZ : w9.cell? ⟨bD, 5, none⟩ = some (.slice iq bQ.length gI) := (az aU.out 5).trans rfl; have IC := ay aU.out 0; have IB := ay aU.out 1; have IA := ay aU.out 2; have Iz := ay aU.out 3; have Iy := ay aU.out 4; have Iw := ay aU.out 5; go_wp2
        repeat (go_quiet (fail); try go_wp2)
        go_meet
        case rel => exact ⟨_, (true), (by first | rfl | (simp; done) | (simp [*]; done)), H', ⟨by first | omega | exact Nat.le_refl _⟩, ⟨by (with_reducible repeat (first | refine aB ?_ _ | refine aF ?_ | refine aC ?_ _)); exact aU.out⟩, ⟨by repeat (first | (with_reducible first | exact HB.out | apply ak | apply ah | apply au | refine aA ?_ lI.out) | exact HB.out)⟩⟩
    · replace c12 := Bool.eq_false_iff.mpr c12
      subst c12
      have H1 : (aJ.j0 k aT true aT aZ aX b_ dw bQ) = some r := by rw [if_neg (show ¬ (false = true) by decide)] at H; exact H
      clear H; have H := H1; clear H1; have H' := aj.mk H; clear H; go_wp2
      repeat (go_quiet (fail); try go_wp2)
      go_meet
      case rel => exact ⟨_, (true), (by first | rfl | (simp; done) | (simp [*]; done)), H', ⟨by first | omega | exact Nat.le_refl _⟩, ⟨by (with_reducible repeat (first | refine aB ?_ _ | refine aF ?_ | refine aC ?_ _)); exact aU.out⟩, ⟨by repeat (first | (with_reducible first | exact HB.out | apply ak | apply ah | apply au | refine aA ?_ lI.out) | exact HB.out)⟩⟩
  · replace c11 := Bool.eq_false_iff.mpr c11
    subst c11
    have H1 : (aJ.j0 k aT true aT aZ aX b_ dw bQ) = some r := by rw [if_neg (show ¬ (false = true) by decide)] at H; exact H
    clear H; have H := H1; clear H1; have H' := aj.mk H; clear H; go_wp2
    repeat (go_quiet (fail); try go_wp2)
    go_meet
    case rel => exact ⟨_, (true), (by first | rfl | (simp; done) | (simp [*]; done)), H', ⟨by first | omega | exact Nat.le_refl _⟩, ⟨by (with_reducible repeat (first | refine aB ?_ _ | refine aF ?_ | refine aC ?_ _)); exact aU.out⟩, ⟨by repeat (first | (with_reducible first | exact HB.out | apply ak | apply ah | apply au | refine aA ?_ lI.out) | exact HB.out)⟩⟩
 case rest =>
  clear HC4; (try clear c1); (try clear p2); (try clear c3); (try clear c11); (try clear c12); (try clear c13); (try clear xQ); (try clear PM); (try clear c14); (try clear oM); (try clear uw); (try clear nG); (try clear nD); (try clear nC); (try clear qN); (try clear qM); (try clear qL); (try clear w_); (try clear wZ); (try clear wY); (try clear Je); (try clear Jd); (try clear Jc); (try clear wX); (try clear wW); (try clear wV); (try clear Jb); (try clear Ja); (try clear I_); (try clear I9); (try clear I8); (try clear I7); (try clear I5); (try clear I4); (try clear IZ); (try clear vM); (try clear vK); (try clear yf); (try clear Ei); (try clear Eh); (try clear Ef); (try clear Ee); (try clear Ed); (try clear Ec); (try clear Eb); (try clear Ea); (try clear D_); (try clear ni); (try clear ng); (try clear m_); (try clear qK); (try clear qJ); (try clear qI); (try clear wU); (try clear wS); (try clear wR); (try clear IL); (try clear IK); (try clear IJ); (try clear wQ); (try clear wP); (try clear wO); (try clear II); (try clear IG); (try clear IE); (try clear IC); (try clear IB); (try clear IA); (try clear Iz); (try clear Iy); (try clear Iw); (try clear vH); (try clear vG); (try clear yc); (try clear D8); (try clear D7); (try clear D6); (try clear D5); (try clear DZ); (try clear DY); (try clear DW); (try clear DU); (try clear DT); obtain ⟨kq, OQ, rfl, HA, HJ3, aU, HB⟩ := hcut
  cases kq with
  | zero => exact absurd HA.out (by simp [aJ.j0])
  | succ kj3 =>
    have H := HA.out; clear HA; simp only [aJ.j0] at H
    by_cases c18 : OQ = true
    · subst c18
      rw [if_pos rfl] at H; obtain rfl := Option.some.inj H; go_wp2
      repeat (go_quiet (fail); try go_wp2)
      go_ret
      exact ⟨by first | rfl | (simp [aO, aN] <;> rfl) | (simp [*, aO, aN] <;> rfl), by repeat (first | (with_reducible first | exact HB.out | apply ak | apply ah | apply au | refine aA ?_ lI.out) | exact HB.out)⟩
    · replace c18 := Bool.eq_false_iff.mpr c18
      subst c18
      have H1 : (aJ.l0 kj3 aT 0 aT aZ aX b_ dw bQ) = some r := by rw [if_neg (show ¬ (false = true) by decide)] at H; exact H
      clear H; have H := H1; clear H1; have H' := aj.mk H; clear H; go_wp2
      repeat (go_quiet (fail); try go_wp2)
      go_loopg [6] kj3 (fun kq v6 w' => ∃ (oI : Int), v6 = .int .i64 oI ∧ aj (aJ.l0 kq aT oI aT aZ aX b_ dw bQ = some r) ∧ aj (kq ≤ kj3) ∧ aj (w'.heap[bD]? = some (.cells #[.int .i64 aT, .int .i64 aZ, (.slice bK aX.length bJ), .int .i64 b_, .int .i64 dw, (.slice iq bQ.length gI)] 31 (0, 0))) ∧ aj (Below w.heap.size w w'))
      case atStart => exact ⟨(0), (by first | rfl | (simp; done) | (simp [*]; done)), H', ⟨Nat.le_refl _⟩, ⟨by (with_reducible repeat (first | refine aB ?_ _ | refine aF ?_ | refine aC ?_ _)); exact aU.out⟩, ⟨by repeat (first | (with_reducible first | exact HB.out | apply ak | apply ah | apply au | refine aA ?_ lI.out) | exact HB.out)⟩⟩
      case round =>
       clear H'; (try clear c1); (try clear p2); (try clear c3); (try clear c11); (try clear c12); (try clear c13); (try clear xQ); (try clear PM); (try clear c14); (try clear oM); (try clear uw); (try clear c18); (try clear nG); (try clear nD); (try clear nC); (try clear qN); (try clear qM); (try clear qL); (try clear w_); (try clear wZ); (try clear wY); (try clear Je); (try clear Jd); (try clear Jc); (try clear wX); (try clear wW); (try clear wV); (try clear Jb); (try clear Ja); (try clear I_); (try clear I9); (try clear I8); (try clear I7); (try clear I5); (try clear I4); (try clear IZ); (try clear vM); (try clear vK); (try clear yf); (try clear Ei); (try clear Eh); (try clear Ef); (try clear Ee); (try clear Ed); (try clear Ec); (try clear Eb); (try clear Ea); (try clear D_); (try clear ni); (try clear ng); (try clear m_); (try clear qK); (try clear qJ); (try clear qI); (try clear wU); (try clear wS); (try clear wR); (try clear IL); (try clear IK); (try clear IJ); (try clear wQ); (try clear wP); (try clear wO); (try clear II); (try clear IG); (try clear IE); (try clear IC); (try clear IB); (try clear IA); (try clear Iz); (try clear Iy); (try clear Iw); (try clear vH); (try clear vG); (try clear yc); (try clear D8); (try clear D7); (try clear D6); (try clear D5); (try clear DZ); (try clear DY); (try clear DW); (try clear DU); (try clear DT); (try clear p2); obtain ⟨oI, rfl, HA, Jz, aU, HB⟩ := hrel
       cases gk with
       | zero => exact absurd HA.out (by simp [aJ.l0])
       | succ k2 =>
         have H := HA.out; clear HA; simp only [aJ.l0] at H
         by_cases c19 : oI < aT
         · rw [if_pos c19] at H
           have UU : decide (oI < aT) = true := decide_eq_true c19; clear c19
           obtain ⟨uZ, Kq⟩ : ∃ j_ : Int, (wrap64 ((wrap64 (oI * aT)) + oI)) = j_ := ⟨_, rfl⟩
           replace H : (if 0 ≤ (uZ) then (if (uZ) < (bQ.length : Int) then (if (rd bQ (uZ)) < 0 then (some false) else (aJ.l1 k2 aT oI 0 aT aZ aX b_ dw bQ)) else (none)) else (none)) = some r := by first | (rw [Kq] at H; exact H) | (simp only [Kq] at H ⊢; exact H)
           have agU : (IntKind.i64.wrap ((wrap64 (oI * aT)) + oI)) = uZ := (dA _).trans Kq
           by_cases c21 : 0 ≤ (uZ)
           · rw [if_pos c21] at H
             have rY : decide (0 ≤ (uZ)) = true := decide_eq_true c21; clear c21
             by_cases Jy : (uZ) < (bQ.length : Int)
             · rw [if_pos Jy] at H
               have acp : decide ((uZ) < (bQ.length : Int)) = true := decide_eq_true Jy; clear Jy
               by_cases c23 : (rd bQ (uZ)) < 0
               · rw [if_pos c23] at H
                 have ED : decide ((rd bQ (uZ)) < 0) = true := decide_eq_true c23; clear c23; obtain rfl := Option.some.inj H; have IY : wr.cell? ⟨bD, 0, none⟩ = some (.int .i64 aT) := (az aU.out 0).trans rfl; have IW : wr.cell? ⟨bD, 1, none⟩ = some (.int .i64 aZ) := (az aU.out 1).trans rfl; have IV : wr.cell? ⟨bD, 2, none⟩ = some (.slice bK aX.length bJ) := (az aU.out 2).trans rfl; have Xf : wr.cell? ⟨bD, 3, none⟩ = some (.int .i64 b_) := (az aU.out 3).trans rfl; have Xe : wr.cell? ⟨bD, 4, none⟩ = some (.int .i64 dw) := (az aU.out 4).trans rfl; have Xd : wr.cell? ⟨bD, 5, none⟩ = some (.slice iq bQ.length gI) := (az aU.out 5).trans rfl; have Iu := ay aU.out 0; have Ir := ay aU.out 1; have Iq := ay aU.out 2; have WJ := ay aU.out 3; have WI := ay aU.out 4; have WH := ay aU.out 5; have JQ : 0 ≤ ((uZ) : Int) := of_decide_eq_true (by first | (with_reducible assumption) | assumption); have JO : (uZ) < (bQ.length : Int) := of_decide_eq_true (by first | (with_reducible assumption) | assumption); obtain ⟨Bh, e227, qH⟩ := Kd.iK uz.out (uZ) JQ JO
                 cases e227
                 replace qH := (HB.out.cell (World.block_lt_of_cell? w _ qH)).trans qH; replace JQ := eq_true JQ; replace JO := eq_true JO; go_wp2
                 repeat (go_quiet (fail); try go_wp2)
                 go_ret
                 exact ⟨by first | rfl | (simp [aO, aN] <;> rfl) | (simp only [← Kq]; first | rfl | (simp [aO, aN] <;> rfl)) | (simp [*, aO, aN] <;> rfl), by repeat (first | (with_reducible first | exact HB.out | apply ak | apply ah | apply au | refine aA ?_ lI.out) | exact HB.out)⟩
               · rw [if_neg c23] at H
                 have ED : decide ((rd bQ (uZ)) < 0) = false := decide_eq_false c23; clear c23; have H' := aj.mk H; clear H; have Xc : wr.cell? ⟨bD, 0, none⟩ = some (.int .i64 aT) := (az aU.out 0).trans rfl; have Xb : wr.cell? ⟨bD, 1, none⟩ = some (.int .i64 aZ) := (az aU.out 1).trans rfl; have Xa : wr.cell? ⟨bD, 2, none⟩ = some (.slice bK aX.length bJ) := (az aU.out 2).trans rfl; have W_ : wr.cell? ⟨bD, 3, none⟩ = some (.int .i64 b_) := (az aU.out 3).trans rfl; have WZ : wr.cell? ⟨bD, 4, none⟩ = some (.int .i64 dw) := (az aU.out 4).trans rfl; have WY : wr.cell? ⟨bD, 5, none⟩ = some (.slice iq bQ.length gI) := (az aU.out 5).trans rfl; have WG := ay aU.out 0; have WE := ay aU.out 1; have WB := ay aU.out 2; have Wy := ay aU.out 3; have Wx := ay aU.out 4; have Wv := ay aU.out 5; have JQ : 0 ≤ ((uZ) : Int) := of_decide_eq_true (by first | (with_reducible assumption) | assumption); have JO : (uZ) < (bQ.length : Int) := of_decide_eq_true (by first | (with_reducible assumption) | assumption); obtain ⟨Bh, e227, qH⟩ := Kd.iK uz.out (uZ) JQ JO
                 cases e227
                 replace qH := (HB.out.cell (World.block_lt_of_cell? w _ qH)).trans qH; replace JQ := eq_true JQ; replace JO := eq_true JO; go_wp2
                 repeat (go_quiet (fail); try go_wp2)
                 go_loopg [7] k2 (fun kq v7 w' => ∃ (qW : Int), v7 = .int .i64 qW ∧ aj (aJ.l1 kq aT oI qW aT aZ aX b_ dw bQ = some r) ∧ aj (kq ≤ k2) ∧ aj (w'.heap[bD]? = some (.cells #[.int .i64 aT, .int .i64 aZ, (.slice bK aX.length bJ), .int .i64 b_, .int .i64 dw, (.slice (some Bh) bQ.length gI)] 31 (0, 0))) ∧ aj (Below w.heap.size w w'))
                 case atStart => exact ⟨(0), (by first | rfl | (simp; done) | (simp [*]; done)), H', ⟨Nat.le_refl _⟩, ⟨by (with_reducible repeat (first | refine aB ?_ _ | refine aF ?_ | refine aC ?_ _)); exact aU.out⟩, ⟨by repeat (first | (with_reducible first | exact HB.out | apply ak | apply ah | apply au | refine aA ?_ lI.out) | exact HB.out)⟩⟩
                 case round =>
                  clear H'; (try clear c1); (try clear c2); (try clear p2); (try clear q2); (try clear hx2); (try clear c3); (try clear p6); (try clear c11); (try clear c12); (try clear c13); (try clear xQ); (try clear PM); (try clear c14); (try clear oM); (try clear uw); (try clear c18); (try clear c19); (try clear UU); (try clear c21); (try clear rY); (try clear Jy); (try clear acp); (try clear p22); (try clear q22); (try clear alz); (try clear c23); (try clear ED); (try clear nG); (try clear nD); (try clear nC); (try clear qN); (try clear qM); (try clear qL); (try clear w_); (try clear wZ); (try clear wY); (try clear Je); (try clear Jd); (try clear Jc); (try clear wX); (try clear wW); (try clear wV); (try clear Jb); (try clear Ja); (try clear I_); (try clear I9); (try clear I8); (try clear I7); (try clear I5); (try clear I4); (try clear IZ); (try clear IY); (try clear IW); (try clear IV); (try clear Xf); (try clear Xe); (try clear Xd); (try clear Xc); (try clear Xb); (try clear Xa); (try clear W_); (try clear WZ); (try clear WY); (try clear vM); (try clear vK); (try clear yf); (try clear Ei); (try clear Eh); (try clear Ef); (try clear Ee); (try clear Ed); (try clear Ec); (try clear Eb); (try clear Ea); (try clear D_); (try clear ni); (try clear ng); (try clear m_); (try clear qK); (try clear qJ); (try clear qI); (try clear wU); (try clear wS); (try clear wR); (try clear IL); (try clear IK); (try clear IJ); (try clear wQ); (try clear wP); (try clear wO); (try clear II); (try clear IG); (try clear IE); (try clear IC); (try clear IB); (try clear IA); (try clear Iz); (try clear Iy); (try clear Iw); (try clear Iu); (try clear Ir); (try clear Iq); (try clear WJ); (try clear WI); (try clear WH); (try clear WG); (try clear WE); (try clear WB); (try clear Wy); (try clear Wx); (try clear Wv); (try clear vH); (try clear vG); (try clear yc); (try clear D8); (try clear D7); (try clear D6); (try clear D5); (try clear DZ); (try clear DY); (try clear DW); (try clear DU); (try clear DT); (try clear qH); (try clear p2); (try clear JQ); (try clear JO); obtain ⟨qW, rfl, HA, HK3, aU, HB⟩ := hrel
                  cases gk with
                  | zero => exact absurd HA.out (by simp [aJ.l1])
                  | succ k3 =>
                    have H := HA.out; clear HA; simp only [aJ.l1] at H
                    by_cases Jp : qW < oI
                    · rw [if_pos Jp] at H
                      have Bd : decide (qW < oI) = true := decide_eq_true Jp; clear Jp
                      obtain ⟨rU, Pq⟩ : ∃ j_ : Int, (wrap64 ((wrap64 (oI * aT)) + qW)) = j_ := ⟨_, rfl⟩
                      replace H : (if 0 ≤ (rU) then (if (rU) < (bQ.length : Int) then (if 0 ≤ (wrap64 ((wrap64 (qW * aT)) + oI)) then (if (wrap64 ((wrap64 (qW * aT)) + oI)) < (bQ.length : Int) then (if (rd bQ (rU)) = (rd bQ (wrap64 ((wrap64 (qW * aT)) + oI))) then (aJ.l1 k3 aT oI (wrap64 (qW + 1)) aT aZ aX b_ dw bQ) else (some false)) else (none)) else (none)) else (none)) else (none)) = some r := by first | (rw [Pq] at H; exact H) | (simp only [Pq] at H ⊢; exact H)
                      have agT : (IntKind.i64.wrap ((wrap64 (oI * aT)) + qW)) = rU := (dA _).trans Pq
                      by_cases c28 : 0 ≤ (rU)
                      · rw [if_pos c28] at H
                        have Yz : decide (0 ≤ (rU)) = true := decide_eq_true c28; clear c28
                        by_cases c29 : (rU) < (bQ.length : Int)
                        · rw [if_pos c29] at H
                          have acm : decide ((rU) < (bQ.length : Int)) = true := decide_eq_true c29; clear c29
                          obtain ⟨qc, xJ⟩ : ∃ j_ : Int, (wrap64 ((wrap64 (qW * aT)) + oI)) = j_ := ⟨_, rfl⟩
                          replace H : (if 0 ≤ (qc) then (if (qc) < (bQ.length : Int) then (if (rd bQ (rU)) = (rd bQ (qc)) then (aJ.l1 k3 aT oI (wrap64 (qW + 1)) aT aZ aX b_ dw bQ) else (some false)) else (none)) else (none)) = some r := by first | (rw [xJ] at H; exact H) | (simp only [xJ] at H ⊢; exact H)
                          have agR : (IntKind.i64.wrap ((wrap64 (qW * aT)) + oI)) = qc := (dA _).trans xJ
                          by_cases c31 : 0 ≤ (qc)
                          · rw [if_pos c31] at H
                            have ack : decide (0 ≤ (qc)) = true := decide_eq_true c31; clear c31
                            by_cases c32 : (qc) < (bQ.length : Int)
                            · rw [if_pos c32] at H
                              have ajM : decide ((qc) < (bQ.length : Int)) = true := decide_eq_true c32; clear c32
                              by_cases Sr : (rd bQ (rU)) = (rd bQ (qc))
                              · rw [if_pos Sr] at H
                                have acj : ((rd bQ (rU)) == (rd bQ (qc))) = true := beq_iff_eq.mpr Sr; have aci : ((rd bQ (rU)) != (rd bQ (qc))) = false := bne_eq_false_iff_eq.mpr Sr; clear Sr; have H' := aj.mk H; clear H; have afi : wr.cell? ⟨bD, 0, none⟩ = some (.int .i64 aT) := (az aU.out 0).trans rfl; have afh : wr.cell? ⟨bD, 1, none⟩ = some (.int .i64 aZ) := (az aU.out 1).trans rfl; have afg : wr.cell? ⟨bD, 2, none⟩ = some (.slice bK aX.length bJ) := (az aU.out 2).trans rfl; have aff : wr.cell? ⟨bD, 3, none⟩ = some (.int .i64 b_) := (az aU.out 3).trans rfl; have afe : wr.cell? ⟨bD, 4, none⟩ = some (.int .i64 dw) := (az aU.out 4).trans rfl; have afd : wr.cell? ⟨bD, 5, none⟩ = some (.slice (some Bh) bQ.length gI) := (az aU.out 5).trans rfl; have aeG := ay aU.out 0; have aeF := ay aU.out 1; have aeE := ay aU.out 2; have aeD := ay aU.out 3; have aeC := ay aU.out 4; have aeB := ay aU.out 5; have Na : 0 ≤ ((rU) : Int) := of_decide_eq_true (by first | (with_reducible assumption) | assumption); have ML : (rU) < (bQ.length : Int) := of_decide_eq_true (by first | (with_reducible assumption) | assumption); obtain ⟨Vd, e228, tJ⟩ := Kd.iK uz.out (rU) Na ML
                                obtain rfl : Bh = Vd := (by injection e228)
                                replace tJ := (HB.out.cell (World.block_lt_of_cell? w _ tJ)).trans tJ; replace Na := eq_true Na; replace ML := eq_true ML; have M_ : 0 ≤ ((qc) : Int) := of_decide_eq_true (by first | (with_reducible assumption) | assumption); have MK : (qc) < (bQ.length : Int) := of_decide_eq_true (by first | (with_reducible assumption) | assumption); obtain ⟨Vb, e229, tH⟩ := Kd.iK uz.out (qc) M_ MK
                                obtain rfl : Bh = Vb := (by injection e229)
                                replace tH := (HB.out.cell (World.block_lt_of_cell? w _ tH)).trans tH; replace M_ := eq_true M_; replace MK := eq_true MK; go_wp2
                                repeat (go_quiet (fail); try go_wp2)
                                go_roundg k3
                                case measure => have := HJ3.out; have := Jz.out; have := HK3.out; omega
                                case rel => exact ⟨(wrap64 (qW + 1)), (by first | rfl | (simp; done) | (simp [*]; done)), H', ⟨by have := HJ3.out; have := Jz.out; have := HK3.out; omega⟩, ⟨by (with_reducible repeat (first | refine aB ?_ _ | refine aF ?_ | refine aC ?_ _)); exact aU.out⟩, ⟨by repeat (first | (with_reducible first | exact HB.out | apply ak | apply ah | apply au | refine aA ?_ lI.out) | exact HB.out)⟩⟩
                              · rw [if_neg Sr] at H
                                have acj : ((rd bQ (rU)) == (rd bQ (qc))) = false := beq_eq_false_iff_ne.mpr Sr; have aci : ((rd bQ (rU)) != (rd bQ (qc))) = true := bne_iff_ne.mpr Sr; obtain rfl := Option.some.inj H; have afc : wr.cell? ⟨bD, 0, none⟩ = some (.int .i64 aT) := (az aU.out 0).trans rfl; have afb : wr.cell? ⟨bD, 1, none⟩ = some (.int .i64 aZ) := (az aU.out 1).trans rfl; have afa : wr.cell? ⟨bD, 2, none⟩ = some (.slice bK aX.length bJ) := (az aU.out 2).trans rfl; have ae_ : wr.cell? ⟨bD, 3, none⟩ = some (.int .i64 b_) := (az aU.out 3).trans rfl; have ae9 : wr.cell? ⟨bD, 4, none⟩ = some (.int .i64 dw) := (az aU.out 4).trans rfl; have ae8 : wr.cell? ⟨bD, 5, none⟩ = some (.slice (some Bh) bQ.length gI) := (az aU.out 5).trans rfl; have aeA := ay aU.out 0; have aez := ay aU.out 1; have aey := ay aU.out 2; have aex := ay aU.out 3; have aew := ay aU.out 4; have aev := ay aU.out 5; have Na : 0 ≤ ((rU) : Int) := of_decide_eq_true (by first | (with_reducible assumption) | assumption); have ML : (rU) < (bQ.length : Int) := of_decide_eq_true (by first | (with_reducible assumption) | assumption); obtain ⟨Vd, e228, tJ⟩ := Kd.iK uz.out (rU) Na ML
                                obtain rfl : Bh = Vd := (by injection e228)
                                replace tJ := (HB.out.cell (World.block_lt_of_cell? w _ tJ)).trans tJ; replace Na := eq_true Na; replace ML := eq_true ML; have M_ : 0 ≤ ((qc) : Int) := of_decide_eq_true (by first | (with_reducible assumption) | assumption); have MK : (qc) < (bQ.length : Int) := of_decide_eq_true (by first | (with_reducible assumption) | assumption); obtain ⟨Vb, e229, tH⟩ := Kd.iK uz.out (qc) M_ MK
                                obtain rfl : Bh = Vb := (by injection e229)
                                replace tH := (HB.out.cell (World.block_lt_of_cell? w _ tH)).trans tH; replace M_ := eq_true M_; replace MK := eq_true MK; go_wp2
                                repeat (go_quiet (fail); try go_wp2)
                                go_ret
                                exact ⟨by first | rfl | (simp [aO, aN] <;> rfl) | (simp only [← Kq, ← Pq, ← xJ]; first | rfl | (simp [aO, aN] <;> rfl)) | (simp [*, aO, aN] <;> rfl), by repeat (first | (with_reducible first | exact HB.out | apply ak | apply ah | apply au | refine aA ?_ lI.out) | exact HB.out)⟩
                            · rw [if_neg c32] at H
                              exact absurd H (by simp)
                          · rw [if_neg c31] at H
                            exact absurd H (by simp)
                        · rw [if_neg c29] at H
                          exact absurd H (by simp)
                      · rw [if_neg c28] at H
                        exact absurd H (by simp)
                    · rw [if_neg Jp] at H
                      have Bd : decide (qW < oI) = false := decide_eq_false Jp; clear Jp; have H' := aj.mk H; clear H; go_wp2
                      repeat (go_quiet (fail); try go_wp2)
                      go_roundg k3
                      case measure => have := HJ3.out; have := Jz.out; have := HK3.out; omega
                      case rel => exact ⟨(wrap64 (oI + 1)), (by first | rfl | (simp; done) | (simp [*]; done)), H', ⟨by have := HJ3.out; have := Jz.out; have := HK3.out; omega⟩, ⟨by (with_reducible repeat (first | refine aB ?_ _ | refine aF ?_ | refine aC ?_ _)); exact aU.out⟩, ⟨by repeat (first | (with_reducible first | exact HB.out | apply ak | apply ah | apply au | refine aA ?_ lI.out) | exact HB.out)⟩⟩
             · rw [if_neg Jy] at H
               exact absurd H (by simp)
           · rw [if_neg c21] at H
             exact absurd H (by simp)
         · rw [if_neg c19] at H
           have UU : decide (oI < aT) = false := decide_eq_false c19; clear c19; obtain rfl := Option.some.inj H; go_wp2
           repeat (go_quiet (fail); try go_wp2)
           go_ret
           exact ⟨by first | rfl | (simp [aO, aN] <;> rfl) | (simp [*, aO, aN] <;> rfl), by repeat (first | (with_reducible first | exact HB.out | apply ak | apply ah | apply au | refine aA ?_ lI.out) | exact HB.out)⟩
end Go.Proofs.YtcfobekkchhbbaaGreat.PQ

