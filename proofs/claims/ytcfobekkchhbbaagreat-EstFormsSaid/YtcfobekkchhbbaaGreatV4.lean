import Derived.Test.YtcfobekkchhbbaaGreatV2
import Derived.Test.YtcfobekkchhbbaaGreatV3
/- Joined and thinned by a program of this session's own (wip/pack2.py) out of its texts (wip/ of its repo); parts were laid by its own program (wip/print-patch.py over the kit's print) out of the translation; Lean checks all. -/
set_option maxRecDepth 100000
set_option maxHeartbeats 8000000
namespace Go.Proofs.YtcfobekkchhbbaaGreat.PQ
open Go.RowKit Go.Proofs.af.aU Go.Proofs.af.a_ Go.Proofs.af.bf
attribute [local go_sem] jq jm kJ kH iM iL jo jl
set_option linter.unusedVariables false
set_option linter.unusedSimpArgs false
attribute [local go_sem high] Un
def iI.f (k : Nat) (aY : Int) (bu : Int) (bn : List Int) (bV : Int) (bW : Int) (bK : List Int) : Option (Bool) := (pU.f aY bu bn).bind fun KR => ((pU.f bV bW bK).bind fun BJ => (if (KR.1 == BJ.1 && (KR.2 == BJ.2)) = true then ((fU.f k bn bK).bind fun t164 => (some t164)) else (some false)))
def iI.T1 : Bool × List (List Nat × List Nat) := (true, [([], []), ([0], [0]), ([], []), ([2, 1], [2]), ([1, 3], [1, 3]), ([4, 3], [4]), ([5], [5]), ([6, 5], [5, 6]), ([5], [5]), ([8, 5], [5, 8]), ([7, 9, 5, 5], [5, 7, 9]), ([5, 10], [5, 10]), ([11, 10, 0, 1, 2, 3, 4, 5, 6, 7, 8, 9, 10, 11], [11])])
def iI.B1 : List Nat := [0, 1, 0, 7, 15, 31, 63, 127, 63, 319, 1023, 2047, 4095]
theorem iI.Vp : pO .any (opsOf Tryz.f81 1) = iI.T1 := by kernel_rfl
theorem iI.PV : qc iI.T1.2 iI.B1 = true := by kernel_rfl
theorem iI.calls (k : Nat) (aY : Int) (bu : Int) (bZ : Option Addr) (bY : Nat) (bn : List Int) (bV : Int) (bW : Int) (fV : Option Addr) (f_ : Nat) (bK : List Int) (r : Bool) (w : World) (jE : Kd.C (Kd.int .i64) w bZ bn.length bn) (jY : bn.length ≤ bY) (nY : Kd.C (Kd.int .i64) w fV bK.length bK) (oM : bK.length ≤ f_) (h : iI.f k aY bu bn bV bW bK = some r) :
 Calls Tryz.prog 81 #[.agg #[.int .i64 aY, .int .i64 bu, .slice bZ bn.length bY], .agg #[.int .i64 bV, .int .i64 bW, .slice fV bK.length f_]] w fun e w' => e = .returned (.bool r) ∧ Below w.heap.size w w' := by
 have Cc := Tryz.underlying29; have nK := aj.mk jE; have p_ := aj.mk jY; clear jE jY; have uj := aj.mk nY; have wL := aj.mk oM; clear nY oM; have HB := aj.mk (Below.refl w.heap.size w); have H : ((pU.f aY bu bn).bind fun KR => ((pU.f bV bW bK).bind fun BJ => (if (KR.1 == BJ.1 && (KR.2 == BJ.2)) = true then ((fU.f k bn bK).bind fun t164 => (some t164)) else (some false)))) = some r := h; clear h; replace H := Option.bind_eq_some_iff.mp H; obtain ⟨⟨t160, t161⟩, zO, H⟩ := H; replace H : ((pU.f bV bW bK).bind fun BJ => (if (t160 == BJ.1 && (t161 == BJ.2)) = true then ((fU.f k bn bK).bind fun t164 => (some t164)) else (some false))) = some r := H; have A3 := aj.mk zO; clear zO; replace H := Option.bind_eq_some_iff.mp H; obtain ⟨⟨t162, t163⟩, Lm, H⟩ := H; replace H : (if (t160 == t162 && (t161 == t163)) = true then ((fU.f k bn bK).bind fun t164 => (some t164)) else (some false)) = some r := H; have A4 := aj.mk Lm; clear Lm
 by_cases c5 : (t160 == t162 && (t161 == t163)) = true
 · rw [if_pos c5] at H
   have Ce : (t160 == t162 && (t161 == t163)) = true := c5
   (try (have ahH : decide (t160 = t162 && (t161 == t163)) = true := by simpa using c5))
   (try (have ahG : (t160 == t162 && (t161 == t163)) = true := by simpa using c5))
   clear c5; replace H := Option.bind_eq_some_iff.mp H; obtain ⟨t164, Yk, H⟩ := H; replace H : (some t164) = some r := H; have A6 := aj.mk Yk; clear Yk; obtain rfl := Option.some.inj H
   go_enter Tryz.func81, Tryz.ntmps81
   try go_wp2_with (first | ((with_reducible refine dH (N := 2) rfl ?_); refine dw ?hg (N := 2) ?hd (cs := #[.int .i64 aY, .int .i64 bu, .slice bZ bn.length bY]) (t := 29) ?hr ?_; (case hd => rfl); (case hg => rfl); (case hr => first | (go_simp; done) | (go_simp; rfl)); intro kR hg w7 hbox hb; have bJ := aj.mk (aV (by repeat (first | (with_reducible first | exact HB.out | apply ak | apply ah | apply au) | exact HB.out)) hb); have dP := aj.mk (hbox); have dY := aj.mk ((by rw [hg]; exact (bg (by repeat (first | (with_reducible first | exact HB.out | apply ak | apply ah | apply au) | exact HB.out))) : w.heap.size ≤ kR)); have fH := aj.mk ((by rw [hg]; exact (bg (by repeat (first | (with_reducible first | exact HB.out | apply ak | apply ah | apply au) | exact HB.out))) : w.heap.size ≤ kR)); clear HB; have HB := bJ; have fO := dP; have ada := dY; have uk := fH; clear bJ dP dY fH; clear hb hbox hg) | ((with_reducible refine dH (N := 3) rfl ?_); refine dw ?hg (N := 3) ?hd (cs := #[.int .i64 bV, .int .i64 bW, .slice fV bK.length f_]) (t := 29) ?hr ?_; (case hd => rfl); (case hg => rfl); (case hr => first | (go_simp; done) | (go_simp; rfl)); intro oD hg w8 hbox hb; have bJ := aj.mk (bH (g := kR) (o := .cells #[.int .i64 aY, .int .i64 bu, .slice bZ bn.length bY] 29 (0, 0)) (by (with_reducible repeat (first | refine aA ?_ _ | refine aH ?_ | refine aC ?_ _)); exact fO.out) hb); have dP := aj.mk (aV (by repeat (first | (with_reducible first | exact HB.out | apply ak | apply ah | apply au | refine aG ?_ uk.out) | exact HB.out)) hb); have dY := aj.mk (hbox); have fH := aj.mk ((by rw [hg]; exact (bg (by repeat (first | (with_reducible first | exact HB.out | apply ak | apply ah | apply au | refine aG ?_ uk.out) | exact HB.out))) : w.heap.size ≤ oD)); have jM := aj.mk ((by rw [hg]; exact (bg (by repeat (first | (with_reducible first | exact HB.out | apply ak | apply ah | apply au | refine aG ?_ uk.out) | exact HB.out))) : w.heap.size ≤ oD)); have kQ := aj.mk ((by rw [hg]; exact Nat.ne_of_lt (fB (g := kR) (o := .cells #[.int .i64 aY, .int .i64 bu, .slice bZ bn.length bY] 29 (0, 0)) (by (with_reducible repeat (first | refine aA ?_ _ | refine aH ?_ | refine aC ?_ _)); exact fO.out)) : kR ≠ oD)); have kY := aj.mk ((by rw [hg]; exact Nat.ne_of_gt (fB (g := kR) (o := .cells #[.int .i64 aY, .int .i64 bu, .slice bZ bn.length bY] 29 (0, 0)) (by (with_reducible repeat (first | refine aA ?_ _ | refine aH ?_ | refine aC ?_ _)); exact fO.out)) : oD ≠ kR)); clear fO; clear HB; have fO := bJ; have HB := dP; have gU := dY; have ac_ := fH; have EW := jM; have Si := kQ; have R_ := kY; clear bJ dP dY fH jM kQ kY; clear hb hbox hg))
   have bJ := aj.mk (aH fO.out); have dP := aj.mk (aH gU.out); have dY := aj.mk (au HB.out); clear fO; clear gU; clear HB; have fO := bJ; have gU := dP; have HB := dY; clear bJ dP dY; refine zU (n := 13) (S := fun w' => w'.cell? ⟨kR, 0, none⟩ = some (.int .i64 aY) ∧ w'.cell? ⟨kR, 1, none⟩ = some (.int .i64 bu) ∧ w'.cell? ⟨kR, 2, none⟩ = some (.slice bZ bn.length bY) ∧ w'.cell? ⟨oD, 0, none⟩ = some (.int .i64 bV) ∧ w'.cell? ⟨oD, 1, none⟩ = some (.int .i64 bW) ∧ w'.cell? ⟨oD, 2, none⟩ = some (.slice fV bK.length f_)) (ds := []) #[false, false, false, false, false, false, false, false, false, false, false, false, false] (by kernel_rfl) rfl rfl ⟨(az fO.out 0).trans rfl, (az fO.out 1).trans rfl, (az fO.out 2).trans rfl, (az gU.out 0).trans rfl, (az gU.out 1).trans rfl, (az gU.out 2).trans rfl⟩ (fun hHeld => ?_); refine qA iI.Vp iI.PV (fun jh Fa => ?_)
   generalize w8.drew = w9 at fO gU HB hHeld ⊢; refine pq (i := 0) (N := some 5) (v := ?_) (a' := ?_) #[true, false, false, false, false, false, false, false, false, false, false, false, false] rfl rfl (iR jh.out Fa.out (by kernel_rfl)) (fun _ _ _ h => h) (Or.inl ⟨by rfl, ?_⟩) hHeld ?_ ?_
   rotate_left
   · rintro w' ⟨s0, s1, s2, s3, s4, s5⟩
     go_simp
     with_reducible rfl
   rotate_left
   · simp only [Act.put, List.setIfInBounds_toArray, List.set_cons_zero, List.set_cons_succ, bT, b_]
     rfl
   refine pq (i := 2) (N := some 7) (v := ?_) (a' := ?_) #[true, false, true, false, false, false, false, false, false, false, false, false, false] rfl rfl (iR jh.out Fa.out (by kernel_rfl)) (fun _ _ _ h => h) (Or.inl ⟨by rfl, ?_⟩) hHeld ?_ ?_
   rotate_left
   · rintro w' ⟨s0, s1, s2, s3, s4, s5⟩
     go_simp
     with_reducible rfl
   rotate_left
   · simp only [Act.put, List.setIfInBounds_toArray, List.set_cons_zero, List.set_cons_succ, bT, b_]
     rfl
   refine yV (i := 1) (N := some 6) #[true, true, true, false, false, false, false, false, false, false, false, false, false] rfl rfl (mG jh.out (by kernel_rfl)) (by decide) (fun K hK => ?_)
   refine yh Tryz.func131 (by kernel_rfl) rfl #[.agg #[.int .i64 aY, .int .i64 bu, .slice bZ bn.length bY]] (by rfl) rfl rfl (by (try simp only [List.map_toArray, List.map_cons, List.map_nil]); first | done | rfl | (simp only [List.length_drop, List.length_take]; rfl)) ?_
   with_reducible refine (pU.calls aY bu _ _ bn t160 t161 _ ?gX ?gW A3.out).mono ?_
   (case gX => repeat (first | exact (Kd.gJ nK.out HB.out) | (with_reducible refine Kd.iD ?_ _) | (with_reducible refine Kd.iC ?_ _) | (with_reducible refine Kd.jv ?_)))
   (case gW => exact p_.out)
   rintro e w10 ⟨rfl, hb⟩; refine ⟨_, rfl, ?_⟩
   have bJ := aj.mk (bH (g := kR) (o := .cells #[.int .i64 aY, .int .i64 bu, .slice bZ bn.length bY] 29 (0, 0)) (by (with_reducible repeat (first | refine aA ?_ _ | refine aH ?_ | refine aC ?_ _)); exact fO.out) hb); have dP := aj.mk (bH (g := oD) (o := .cells #[.int .i64 bV, .int .i64 bW, .slice fV bK.length f_] 29 (0, 0)) (by (with_reducible repeat (first | refine aA ?_ _ | refine aH ?_ | refine aC ?_ _)); exact gU.out) hb); have dY := aj.mk (aV (by repeat (first | (with_reducible first | exact HB.out | apply ak | apply ah | apply au | refine aG ?_ uk.out | refine aG ?_ EW.out) | exact HB.out)) hb); clear fO; clear gU; clear HB; have fO := bJ; have gU := dP; have HB := dY; clear bJ dP dY
   (try clear hb)
   (try clear hb2)
   (try clear hk)
   (try clear hi)
   refine hK.out _ _ ⟨(az fO.out 0).trans rfl, (az fO.out 1).trans rfl, (az fO.out 2).trans rfl, (az gU.out 0).trans rfl, (az gU.out 1).trans rfl, (az gU.out 2).trans rfl⟩ (fun hHeld => ?_)
   clear hK K; refine uU (a' := ?_) ?_ ?_
   rotate_left
   · show Act.put _ (some 6) _ = _
     simp only [Act.put, List.setIfInBounds_toArray, List.set_cons_zero, List.set_cons_succ, bT, b_]; rfl
   refine yV (i := 3) (N := some 8) #[true, true, true, true, false, false, false, false, false, false, false, false, false] rfl rfl (mG jh.out (by kernel_rfl)) (by decide) (fun K hK => ?_)
   refine yh Tryz.func131 (by kernel_rfl) rfl #[.agg #[.int .i64 bV, .int .i64 bW, .slice fV bK.length f_]] (by rfl) rfl rfl (by (try simp only [List.map_toArray, List.map_cons, List.map_nil]); first | done | rfl | (simp only [List.length_drop, List.length_take]; rfl)) ?_
   with_reducible refine (pU.calls bV bW _ _ bK t162 t163 _ ?gX ?gW A4.out).mono ?_
   (case gX => repeat (first | exact (Kd.gJ uj.out HB.out) | (with_reducible refine Kd.iD ?_ _) | (with_reducible refine Kd.iC ?_ _) | (with_reducible refine Kd.jv ?_)))
   (case gW => exact wL.out)
   rintro e BX ⟨rfl, hb⟩; refine ⟨_, rfl, ?_⟩
   have bJ := aj.mk (bH (g := kR) (o := .cells #[.int .i64 aY, .int .i64 bu, .slice bZ bn.length bY] 29 (0, 0)) (by (with_reducible repeat (first | refine aA ?_ _ | refine aH ?_ | refine aC ?_ _)); exact fO.out) hb); have dP := aj.mk (bH (g := oD) (o := .cells #[.int .i64 bV, .int .i64 bW, .slice fV bK.length f_] 29 (0, 0)) (by (with_reducible repeat (first | refine aA ?_ _ | refine aH ?_ | refine aC ?_ _)); exact gU.out) hb); have dY := aj.mk (aV (by repeat (first | (with_reducible first | exact HB.out | apply ak | apply ah | apply au | refine aG ?_ uk.out | refine aG ?_ EW.out) | exact HB.out)) hb); clear fO; clear gU; clear HB; have fO := bJ; have gU := dP; have HB := dY; clear bJ dP dY
   (try clear hb)
   (try clear hb2)
   (try clear hk)
   (try clear hi)
   refine hK.out _ _ ⟨(az fO.out 0).trans rfl, (az fO.out 1).trans rfl, (az fO.out 2).trans rfl, (az gU.out 0).trans rfl, (az gU.out 1).trans rfl, (az gU.out 2).trans rfl⟩ (fun hHeld => ?_)
   clear hK K; refine uU (a' := ?_) ?_ ?_
   rotate_left
   · show Act.put _ (some 8) _ = _
     simp only [Act.put, List.setIfInBounds_toArray, List.set_cons_zero, List.set_cons_succ, bT, b_]; rfl
   refine fG (i := 4) (N := some 9) (v := ?_) (a' := ?_) #[true, true, true, true, true, false, false, false, false, false, false, false, false] rfl rfl (dM jh.out (by kernel_rfl)) (fun _ _ _ h => h) (Or.inl ⟨by rfl, ?_⟩) ?_ ?_
   rotate_left
   · intro w'
     go_simp
     with_reducible rfl
   rotate_left
   · simp only [Act.put, List.setIfInBounds_toArray, List.set_cons_zero, List.set_cons_succ, bT, b_]
     rfl
   refine fG (i := 5) (N := some 10) (v := ?_) (a' := ?_) #[true, true, true, true, true, true, false, false, false, false, false, false, false] rfl rfl (dM jh.out (by kernel_rfl)) (fun _ _ _ h => h) (Or.inl ⟨by rfl, ?_⟩) ?_ ?_
   rotate_left
   · intro w'
     go_simp
     with_reducible rfl
   rotate_left
   · simp only [Act.put, List.setIfInBounds_toArray, List.set_cons_zero, List.set_cons_succ, bT, b_]
     rfl
   refine fG (i := 6) (N := some 11) (v := ?_) (a' := ?_) #[true, true, true, true, true, true, true, false, false, false, false, false, false] rfl rfl (dM jh.out (by kernel_rfl)) (fun _ _ _ h => h) (Or.inl ⟨by rfl, ?_⟩) ?_ ?_
   rotate_left
   · intro w'
     go_simp
     with_reducible rfl
   rotate_left
   · simp only [Act.put, List.setIfInBounds_toArray, List.set_cons_zero, List.set_cons_succ, bT, b_]
     rfl
   refine fG (i := 8) (N := some 13) (v := ?_) (a' := ?_) #[true, true, true, true, true, true, true, false, true, false, false, false, false] rfl rfl (dM jh.out (by kernel_rfl)) (fun _ _ _ h => h) (Or.inl ⟨by rfl, ?_⟩) ?_ ?_
   rotate_left
   · intro w'
     go_simp
     with_reducible rfl
   rotate_left
   · simp only [Act.put, List.setIfInBounds_toArray, List.set_cons_zero, List.set_cons_succ, bT, b_]
     rfl
   refine pq (i := 7) (N := some 12) (v := ?_) (a' := ?_) #[true, true, true, true, true, true, true, true, true, false, false, false, false] rfl rfl (iR jh.out Fa.out (by kernel_rfl)) (fun _ _ _ h => h) (Or.inl ⟨by rfl, ?_⟩) hHeld ?_ ?_
   rotate_left
   · rintro w' ⟨s0, s1, s2, s3, s4, s5⟩
     go_simp
     with_reducible rfl
   rotate_left
   · simp only [Act.put, List.setIfInBounds_toArray, List.set_cons_zero, List.set_cons_succ, bT, b_]
     rfl
   refine pq (i := 9) (N := some 14) (v := ?_) (a' := ?_) #[true, true, true, true, true, true, true, true, true, true, false, false, false] rfl rfl (iR jh.out Fa.out (by kernel_rfl)) (fun _ _ _ h => h) (Or.inl ⟨by rfl, ?_⟩) hHeld ?_ ?_
   rotate_left
   · rintro w' ⟨s0, s1, s2, s3, s4, s5⟩
     go_simp
     with_reducible rfl
   rotate_left
   · simp only [Act.put, List.setIfInBounds_toArray, List.set_cons_zero, List.set_cons_succ, bT, b_]
     rfl
   refine yV (i := 10) (N := some 15) #[true, true, true, true, true, true, true, true, true, true, true, false, false] rfl rfl (mG jh.out (by kernel_rfl)) (by decide) (fun K hK => ?_)
   refine yh Tryz.func132 (by kernel_rfl) rfl #[.slice bZ bn.length bY, .slice fV bK.length f_] (by rfl) rfl rfl (by (try simp only [List.map_toArray, List.map_cons, List.map_nil]); first | done | rfl | (simp only [List.length_drop, List.length_take]; rfl)) ?_
   with_reducible refine (fU.calls k _ _ bn _ _ bK t164 _ ?gX ?gW ?qH ?vM A6.out).mono ?_
   (case gX => repeat (first | exact (Kd.gJ nK.out HB.out) | (with_reducible refine Kd.iD ?_ _) | (with_reducible refine Kd.iC ?_ _) | (with_reducible refine Kd.jv ?_)))
   (case gW => exact p_.out)
   (case qH => repeat (first | exact (Kd.gJ uj.out HB.out) | (with_reducible refine Kd.iD ?_ _) | (with_reducible refine Kd.iC ?_ _) | (with_reducible refine Kd.jv ?_)))
   (case vM => exact wL.out)
   rintro e w' ⟨rfl, ⟨nd, rfl⟩⟩; refine ⟨_, rfl, ?_⟩
   refine hK.out _ _ ⟨(az fO.out 0).trans rfl, (az fO.out 1).trans rfl, (az fO.out 2).trans rfl, (az gU.out 0).trans rfl, (az gU.out 1).trans rfl, (az gU.out 2).trans rfl⟩ (fun hHeld => ?_)
   clear hK K; refine uU (a' := ?_) ?_ ?_
   rotate_left
   · show Act.put _ (some 15) _ = _
     simp only [Act.put, List.setIfInBounds_toArray, List.set_cons_zero, List.set_cons_succ, bT, b_]; rfl
   refine fG (i := 11) (N := some 16) (v := ?_) (a' := ?_) #[true, true, true, true, true, true, true, true, true, true, true, true, false] rfl rfl (dM jh.out (by kernel_rfl)) (fun _ _ _ h => h) (Or.inl ⟨by rfl, ?_⟩) ?_ ?_
   rotate_left
   · intro w'
     go_simp
     with_reducible rfl
   rotate_left
   · simp only [Act.put, List.setIfInBounds_toArray, List.set_cons_zero, List.set_cons_succ, bT, b_]
     rfl
   refine fG (i := 12) (N := some 4) (v := ?_) (a' := ?_) #[true, true, true, true, true, true, true, true, true, true, true, true, true] rfl rfl (dM jh.out (by kernel_rfl)) (fun _ _ _ h => h) (Or.inl ⟨by rfl, ?_⟩) ?_ ?_
   rotate_left
   · intro w'
     go_simp
     with_reducible rfl
   rotate_left
   · simp only [Act.put, List.setIfInBounds_toArray, List.set_cons_zero, List.set_cons_succ, bT, b_]
     rfl
   refine Gt (xK jh.out (by kernel_rfl)) ?_
   try go_wp2
   go_ret
   exact ⟨by first | rfl | (simp [aQ, aN] <;> rfl) | (simp [*, aQ, aN] <;> rfl), by repeat (first | (with_reducible first | exact HB.out | apply ak | apply ah | apply au | refine aG ?_ uk.out | refine aG ?_ EW.out) | exact HB.out)⟩
 · rw [if_neg c5] at H
   have Ce : (t160 == t162 && (t161 == t163)) = false := by simpa using c5
   (try (have ahH : decide (t160 = t162 && (t161 == t163)) = false := by simpa using c5))
   (try (have ahG : (t160 == t162 && (t161 == t163)) = false := by simpa using c5))
   (try (have al9 : ¬ (t160 = t162 && (t161 == t163)) := by simpa using c5))
   clear c5; obtain rfl := Option.some.inj H
   go_enter Tryz.func81, Tryz.ntmps81
   try go_wp2_with (first | ((with_reducible refine dH (N := 2) rfl ?_); refine dw ?hg (N := 2) ?hd (cs := #[.int .i64 aY, .int .i64 bu, .slice bZ bn.length bY]) (t := 29) ?hr ?_; (case hd => rfl); (case hg => rfl); (case hr => first | (go_simp; done) | (go_simp; rfl)); intro kR hg w12 hbox hb; have bJ := aj.mk (aV (by repeat (first | (with_reducible first | exact HB.out | apply ak | apply ah | apply au) | exact HB.out)) hb); have dP := aj.mk (hbox); have dY := aj.mk ((by rw [hg]; exact (bg (by repeat (first | (with_reducible first | exact HB.out | apply ak | apply ah | apply au) | exact HB.out))) : w.heap.size ≤ kR)); have fH := aj.mk ((by rw [hg]; exact (bg (by repeat (first | (with_reducible first | exact HB.out | apply ak | apply ah | apply au) | exact HB.out))) : w.heap.size ≤ kR)); clear HB; have HB := bJ; have fO := dP; have ada := dY; have uk := fH; clear bJ dP dY fH; clear hb hbox hg) | ((with_reducible refine dH (N := 3) rfl ?_); refine dw ?hg (N := 3) ?hd (cs := #[.int .i64 bV, .int .i64 bW, .slice fV bK.length f_]) (t := 29) ?hr ?_; (case hd => rfl); (case hg => rfl); (case hr => first | (go_simp; done) | (go_simp; rfl)); intro oD hg SG hbox hb; have bJ := aj.mk (bH (g := kR) (o := .cells #[.int .i64 aY, .int .i64 bu, .slice bZ bn.length bY] 29 (0, 0)) (by (with_reducible repeat (first | refine aA ?_ _ | refine aH ?_ | refine aC ?_ _)); exact fO.out) hb); have dP := aj.mk (aV (by repeat (first | (with_reducible first | exact HB.out | apply ak | apply ah | apply au | refine aG ?_ uk.out) | exact HB.out)) hb); have dY := aj.mk (hbox); have fH := aj.mk ((by rw [hg]; exact (bg (by repeat (first | (with_reducible first | exact HB.out | apply ak | apply ah | apply au | refine aG ?_ uk.out) | exact HB.out))) : w.heap.size ≤ oD)); have jM := aj.mk ((by rw [hg]; exact (bg (by repeat (first | (with_reducible first | exact HB.out | apply ak | apply ah | apply au | refine aG ?_ uk.out) | exact HB.out))) : w.heap.size ≤ oD)); have kQ := aj.mk ((by rw [hg]; exact Nat.ne_of_lt (fB (g := kR) (o := .cells #[.int .i64 aY, .int .i64 bu, .slice bZ bn.length bY] 29 (0, 0)) (by (with_reducible repeat (first | refine aA ?_ _ | refine aH ?_ | refine aC ?_ _)); exact fO.out)) : kR ≠ oD)); have kY := aj.mk ((by rw [hg]; exact Nat.ne_of_gt (fB (g := kR) (o := .cells #[.int .i64 aY, .int .i64 bu, .slice bZ bn.length bY] 29 (0, 0)) (by (with_reducible repeat (first | refine aA ?_ _ | refine aH ?_ | refine aC ?_ _)); exact fO.out)) : oD ≠ kR)); clear fO; clear HB; have fO := bJ; have HB := dP; have gU := dY; have ac_ := fH; have EW := jM; have Si := kQ; have R_ := kY; clear bJ dP dY fH jM kQ kY; clear hb hbox hg))
   have bJ := aj.mk (aH fO.out); have dP := aj.mk (aH gU.out); have dY := aj.mk (au HB.out); clear fO; clear gU; clear HB; have fO := bJ; have gU := dP; have HB := dY; clear bJ dP dY; refine zU (n := 13) (S := fun w' => w'.cell? ⟨kR, 0, none⟩ = some (.int .i64 aY) ∧ w'.cell? ⟨kR, 1, none⟩ = some (.int .i64 bu) ∧ w'.cell? ⟨kR, 2, none⟩ = some (.slice bZ bn.length bY) ∧ w'.cell? ⟨oD, 0, none⟩ = some (.int .i64 bV) ∧ w'.cell? ⟨oD, 1, none⟩ = some (.int .i64 bW) ∧ w'.cell? ⟨oD, 2, none⟩ = some (.slice fV bK.length f_)) (ds := []) #[false, false, false, false, false, false, false, false, false, false, false, false, false] (by kernel_rfl) rfl rfl ⟨(az fO.out 0).trans rfl, (az fO.out 1).trans rfl, (az fO.out 2).trans rfl, (az gU.out 0).trans rfl, (az gU.out 1).trans rfl, (az gU.out 2).trans rfl⟩ (fun hHeld => ?_); refine qA iI.Vp iI.PV (fun jh Fa => ?_)
   generalize SG.drew = w14 at fO gU HB hHeld ⊢; refine pq (i := 0) (N := some 5) (v := ?_) (a' := ?_) #[true, false, false, false, false, false, false, false, false, false, false, false, false] rfl rfl (iR jh.out Fa.out (by kernel_rfl)) (fun _ _ _ h => h) (Or.inl ⟨by rfl, ?_⟩) hHeld ?_ ?_
   rotate_left
   · rintro w' ⟨s0, s1, s2, s3, s4, s5⟩
     go_simp
     with_reducible rfl
   rotate_left
   · simp only [Act.put, List.setIfInBounds_toArray, List.set_cons_zero, List.set_cons_succ, bT, b_]
     rfl
   refine pq (i := 2) (N := some 7) (v := ?_) (a' := ?_) #[true, false, true, false, false, false, false, false, false, false, false, false, false] rfl rfl (iR jh.out Fa.out (by kernel_rfl)) (fun _ _ _ h => h) (Or.inl ⟨by rfl, ?_⟩) hHeld ?_ ?_
   rotate_left
   · rintro w' ⟨s0, s1, s2, s3, s4, s5⟩
     go_simp
     with_reducible rfl
   rotate_left
   · simp only [Act.put, List.setIfInBounds_toArray, List.set_cons_zero, List.set_cons_succ, bT, b_]
     rfl
   refine yV (i := 1) (N := some 6) #[true, true, true, false, false, false, false, false, false, false, false, false, false] rfl rfl (mG jh.out (by kernel_rfl)) (by decide) (fun K hK => ?_)
   refine yh Tryz.func131 (by kernel_rfl) rfl #[.agg #[.int .i64 aY, .int .i64 bu, .slice bZ bn.length bY]] (by rfl) rfl rfl (by (try simp only [List.map_toArray, List.map_cons, List.map_nil]); first | done | rfl | (simp only [List.length_drop, List.length_take]; rfl)) ?_
   with_reducible refine (pU.calls aY bu _ _ bn t160 t161 _ ?gX ?gW A3.out).mono ?_
   (case gX => repeat (first | exact (Kd.gJ nK.out HB.out) | (with_reducible refine Kd.iD ?_ _) | (with_reducible refine Kd.iC ?_ _) | (with_reducible refine Kd.jv ?_)))
   (case gW => exact p_.out)
   rintro e w15 ⟨rfl, hb⟩; refine ⟨_, rfl, ?_⟩
   have bJ := aj.mk (bH (g := kR) (o := .cells #[.int .i64 aY, .int .i64 bu, .slice bZ bn.length bY] 29 (0, 0)) (by (with_reducible repeat (first | refine aA ?_ _ | refine aH ?_ | refine aC ?_ _)); exact fO.out) hb); have dP := aj.mk (bH (g := oD) (o := .cells #[.int .i64 bV, .int .i64 bW, .slice fV bK.length f_] 29 (0, 0)) (by (with_reducible repeat (first | refine aA ?_ _ | refine aH ?_ | refine aC ?_ _)); exact gU.out) hb); have dY := aj.mk (aV (by repeat (first | (with_reducible first | exact HB.out | apply ak | apply ah | apply au | refine aG ?_ uk.out | refine aG ?_ EW.out) | exact HB.out)) hb); clear fO; clear gU; clear HB; have fO := bJ; have gU := dP; have HB := dY; clear bJ dP dY
   (try clear hb)
   (try clear hb2)
   (try clear hk)
   (try clear hi)
   refine hK.out _ _ ⟨(az fO.out 0).trans rfl, (az fO.out 1).trans rfl, (az fO.out 2).trans rfl, (az gU.out 0).trans rfl, (az gU.out 1).trans rfl, (az gU.out 2).trans rfl⟩ (fun hHeld => ?_)
   clear hK K; refine uU (a' := ?_) ?_ ?_
   rotate_left
   · show Act.put _ (some 6) _ = _
     simp only [Act.put, List.setIfInBounds_toArray, List.set_cons_zero, List.set_cons_succ, bT, b_]; rfl
   refine yV (i := 3) (N := some 8) #[true, true, true, true, false, false, false, false, false, false, false, false, false] rfl rfl (mG jh.out (by kernel_rfl)) (by decide) (fun K hK => ?_)
   refine yh Tryz.func131 (by kernel_rfl) rfl #[.agg #[.int .i64 bV, .int .i64 bW, .slice fV bK.length f_]] (by rfl) rfl rfl (by (try simp only [List.map_toArray, List.map_cons, List.map_nil]); first | done | rfl | (simp only [List.length_drop, List.length_take]; rfl)) ?_
   with_reducible refine (pU.calls bV bW _ _ bK t162 t163 _ ?gX ?gW A4.out).mono ?_
   (case gX => repeat (first | exact (Kd.gJ uj.out HB.out) | (with_reducible refine Kd.iD ?_ _) | (with_reducible refine Kd.iC ?_ _) | (with_reducible refine Kd.jv ?_)))
   (case gW => exact wL.out)
   rintro e w16 ⟨rfl, hb⟩; refine ⟨_, rfl, ?_⟩
   have bJ := aj.mk (bH (g := kR) (o := .cells #[.int .i64 aY, .int .i64 bu, .slice bZ bn.length bY] 29 (0, 0)) (by (with_reducible repeat (first | refine aA ?_ _ | refine aH ?_ | refine aC ?_ _)); exact fO.out) hb); have dP := aj.mk (bH (g := oD) (o := .cells #[.int .i64 bV, .int .i64 bW, .slice fV bK.length f_] 29 (0, 0)) (by (with_reducible repeat (first | refine aA ?_ _ | refine aH ?_ | refine aC ?_ _)); exact gU.out) hb); have dY := aj.mk (aV (by repeat (first | (with_reducible first | exact HB.out | apply ak | apply ah | apply au | refine aG ?_ uk.out | refine aG ?_ EW.out) | exact HB.out)) hb); clear fO; clear gU; clear HB; have fO := bJ; have gU := dP; have HB := dY; clear bJ dP dY
   (try clear hb)
   (try clear hb2)
   (try clear hk)
   (try clear hi)
   refine hK.out _ _ ⟨(az fO.out 0).trans rfl, (az fO.out 1).trans rfl, (az fO.out 2).trans rfl, (az gU.out 0).trans rfl, (az gU.out 1).trans rfl, (az gU.out 2).trans rfl⟩ (fun hHeld => ?_)
   clear hK K; refine uU (a' := ?_) ?_ ?_
   rotate_left
   · show Act.put _ (some 8) _ = _
     simp only [Act.put, List.setIfInBounds_toArray, List.set_cons_zero, List.set_cons_succ, bT, b_]; rfl
   refine fG (i := 4) (N := some 9) (v := ?_) (a' := ?_) #[true, true, true, true, true, false, false, false, false, false, false, false, false] rfl rfl (dM jh.out (by kernel_rfl)) (fun _ _ _ h => h) (Or.inl ⟨by rfl, ?_⟩) ?_ ?_
   rotate_left
   · intro w'
     go_simp
     with_reducible rfl
   rotate_left
   · simp only [Act.put, List.setIfInBounds_toArray, List.set_cons_zero, List.set_cons_succ, bT, b_]
     rfl
   refine fG (i := 5) (N := some 10) (v := ?_) (a' := ?_) #[true, true, true, true, true, true, false, false, false, false, false, false, false] rfl rfl (dM jh.out (by kernel_rfl)) (fun _ _ _ h => h) (Or.inl ⟨by rfl, ?_⟩) ?_ ?_
   rotate_left
   · intro w'
     go_simp
     with_reducible rfl
   rotate_left
   · simp only [Act.put, List.setIfInBounds_toArray, List.set_cons_zero, List.set_cons_succ, bT, b_]
     rfl
   refine fG (i := 6) (N := some 11) (v := undef) (a' := ?_) #[true, true, true, true, true, true, true, false, false, false, false, false, false] rfl rfl (dM jh.out (by kernel_rfl)) (fun _ _ _ h => h) (Or.inr ⟨by rfl, rfl⟩) ?_ ?_
   rotate_left
   · simp only [Act.put, List.setIfInBounds_toArray, List.set_cons_zero, List.set_cons_succ, bT, b_]
     rfl
   refine fG (i := 7) (N := some 12) (v := undef) (a' := ?_) #[true, true, true, true, true, true, true, true, false, false, false, false, false] rfl rfl (dM jh.out (by kernel_rfl)) (fun _ _ _ h => h) (Or.inr ⟨by rfl, rfl⟩) ?_ ?_
   rotate_left
   · simp only [Act.put, List.setIfInBounds_toArray, List.set_cons_zero, List.set_cons_succ, bT, b_]
     rfl
   refine fG (i := 8) (N := some 13) (v := undef) (a' := ?_) #[true, true, true, true, true, true, true, true, true, false, false, false, false] rfl rfl (dM jh.out (by kernel_rfl)) (fun _ _ _ h => h) (Or.inr ⟨by rfl, rfl⟩) ?_ ?_
   rotate_left
   · simp only [Act.put, List.setIfInBounds_toArray, List.set_cons_zero, List.set_cons_succ, bT, b_]
     rfl
   refine fG (i := 9) (N := some 14) (v := undef) (a' := ?_) #[true, true, true, true, true, true, true, true, true, true, false, false, false] rfl rfl (dM jh.out (by kernel_rfl)) (fun _ _ _ h => h) (Or.inr ⟨by rfl, rfl⟩) ?_ ?_
   rotate_left
   · simp only [Act.put, List.setIfInBounds_toArray, List.set_cons_zero, List.set_cons_succ, bT, b_]
     rfl
   refine fG (i := 10) (N := some 15) (v := undef) (a' := ?_) #[true, true, true, true, true, true, true, true, true, true, true, false, false] rfl rfl (dM jh.out (by kernel_rfl)) (fun _ _ _ h => h) (Or.inr ⟨by rfl, rfl⟩) ?_ ?_
   rotate_left
   · simp only [Act.put, List.setIfInBounds_toArray, List.set_cons_zero, List.set_cons_succ, bT, b_]
     rfl
   refine fG (i := 11) (N := some 16) (v := ?_) (a' := ?_) #[true, true, true, true, true, true, true, true, true, true, true, true, false] rfl rfl (dM jh.out (by kernel_rfl)) (fun _ _ _ h => h) (Or.inl ⟨by rfl, ?_⟩) ?_ ?_
   rotate_left
   · intro w'
     go_simp
     with_reducible rfl
   rotate_left
   · simp only [Act.put, List.setIfInBounds_toArray, List.set_cons_zero, List.set_cons_succ, bT, b_]
     rfl
   refine fG (i := 12) (N := some 4) (v := ?_) (a' := ?_) #[true, true, true, true, true, true, true, true, true, true, true, true, true] rfl rfl (dM jh.out (by kernel_rfl)) (fun _ _ _ h => h) (Or.inl ⟨by rfl, ?_⟩) ?_ ?_
   rotate_left
   · intro w'
     go_simp
     with_reducible rfl
   rotate_left
   · simp only [Act.put, List.setIfInBounds_toArray, List.set_cons_zero, List.set_cons_succ, bT, b_]
     rfl
   refine Gt (xK jh.out (by kernel_rfl)) ?_
   try go_wp2
   go_ret
   exact ⟨by first | rfl | (simp [aQ, aN] <;> rfl) | (simp [*, aQ, aN] <;> rfl), by repeat (first | (with_reducible first | exact HB.out | apply ak | apply ah | apply au | refine aG ?_ uk.out | refine aG ?_ EW.out) | exact HB.out)⟩
def bits_Mul.f (a0 : Int) (a1 : Int) : Option (Int × Int) := (bits_Mul64.f a0 a1).bind fun KQ => (some (KQ.1, KQ.2))
theorem bits_Mul.calls (a0 : Int) (a1 : Int) (r1 : Int) (r2 : Int) (w : World) (h : bits_Mul.f a0 a1 = some (r1, r2)) :
 Calls Tryz.prog 211 #[.int .u64 a0, .int .u64 a1] w fun e w' => e = .returned (.tuple #[.int .u64 r1, .int .u64 r2]) ∧ dA w w' := by
 have H : ((bits_Mul64.f a0 a1).bind fun KQ => (some (KQ.1, KQ.2))) = some (r1, r2) := h; clear h; replace H := Option.bind_eq_some_iff.mp H; obtain ⟨⟨t165, t166⟩, zO, H⟩ := H; replace H : (some (t165, t166)) = some (r1, r2) := H; have A3 := aj.mk zO; clear zO; simp only [Option.some.injEq, Prod.mk.injEq] at H; obtain ⟨rfl, rfl⟩ := H
 go_enter Tryz.func211, Tryz.ntmps211
 go_wp2_with (first | ((with_reducible refine aJ (f := 147) rfl ?_); refine bF (some 25) rfl rfl Tryz.func147 (by kernel_rfl) rfl #[.int .u64 a0, .int .u64 a1] rfl (by (try simp only [List.map_toArray, List.map_cons, List.map_nil]); first | done | rfl | (simp only [List.length_drop, List.length_take]; rfl)) ?_; (with_reducible refine (bits_Mul64.calls a0 a1 t165 t166 _ A3.out).mono ?_); rintro e w' ⟨rfl, ⟨nd, rfl⟩⟩; refine ⟨_, rfl, ?_⟩))
 go_ret2
 exact ⟨by first | rfl | (simp; done) | (simp [*]; done), by repeat (first | exact dA.refl _ | apply dA.step)⟩
def oH.f  : Option (Int × Int × Int × Int × Int × Int) := some (2097152, 16777216, 262144, 16777216, 16777216, 268435456)
theorem oH.calls  (r1 : Int) (r2 : Int) (r3 : Int) (r4 : Int) (r5 : Int) (r6 : Int) (w : World) (h : oH.f  = some (r1, r2, r3, r4, r5, r6)) :
 Calls Tryz.prog 32 #[] w fun e w' => e = .returned (.agg #[.int .i64 r1, .int .i64 r2, .int .i64 r3, .int .i64 r4, .int .i64 r5, .int .i64 r6]) ∧ Below w.heap.size w w' := by
 have YT := Tryz.underlying24; have HB := aj.mk (Below.refl w.heap.size w); have H : (some (2097152, 16777216, 262144, 16777216, 16777216, 268435456)) = some (r1, r2, r3, r4, r5, r6) := h; clear h; simp only [Option.some.injEq, Prod.mk.injEq] at H; obtain ⟨rfl, rfl, rfl, rfl, rfl, rfl⟩ := H
 go_enter Tryz.func32, Tryz.ntmps32
 go_wp2_with (first | ((with_reducible refine dH (N := 0) rfl ?_); refine dw ?hg (N := 0) ?hd (cs := #[.int .i64 0, .int .i64 0, .int .i64 0, .int .i64 0, .int .i64 0, .int .i64 0]) (t := 24) ?hr ?_; (case hd => rfl); (case hg => rfl); (case hr => first | (go_simp; done) | (go_simp; rfl)); intro zk hg w1 hbox hb; have bJ := aj.mk (aV (by repeat (first | (with_reducible first | exact HB.out | apply ak | apply ah | apply au) | exact HB.out)) hb); have dP := aj.mk (hbox); have dY := aj.mk ((by rw [hg]; exact (bg (by repeat (first | (with_reducible first | exact HB.out | apply ak | apply ah | apply au) | exact HB.out))) : w.heap.size ≤ zk)); have fH := aj.mk ((by rw [hg]; exact (bg (by repeat (first | (with_reducible first | exact HB.out | apply ak | apply ah | apply au) | exact HB.out))) : w.heap.size ≤ zk)); clear HB; have HB := bJ; have um := dP; have akB := dY; have adb := fH; clear bJ dP dY fH; clear hb hbox hg; have ahi : w1.cell? ⟨zk, 0, none⟩ = some (.int .i64 0) := (az um.out 0).trans rfl; have ahh : w1.cell? ⟨zk, 1, none⟩ = some (.int .i64 0) := (az um.out 1).trans rfl; have ahg : w1.cell? ⟨zk, 2, none⟩ = some (.int .i64 0) := (az um.out 2).trans rfl; have ahf : w1.cell? ⟨zk, 3, none⟩ = some (.int .i64 0) := (az um.out 3).trans rfl; have ahe : w1.cell? ⟨zk, 4, none⟩ = some (.int .i64 0) := (az um.out 4).trans rfl; have ahd : w1.cell? ⟨zk, 5, none⟩ = some (.int .i64 0) := (az um.out 5).trans rfl; have ag8 := ay um.out 0; have ag7 := ay um.out 1; have ag6 := ay um.out 2; have ag5 := ay um.out 3; have ag4 := ay um.out 4; have ag3 := ay um.out 5))
 refine bodyPost_ret (results_cell_row rfl _ _ zk 24 #[.int .i64 2097152, .int .i64 16777216, .int .i64 262144, .int .i64 16777216, .int .i64 16777216, .int .i64 268435456] (0, 0) _ rfl (by (with_reducible repeat (first | refine aA ?_ _ | refine aH ?_ | refine aC ?_ _)); refine bM (cs := #[.int .i64 2097152, .int .i64 16777216, .int .i64 262144, .int .i64 16777216, .int .i64 16777216, .int .i64 0]) ?_ 5 _ rfl; (with_reducible repeat (first | refine aA ?_ _ | refine aH ?_ | refine aC ?_ _)); refine bM (cs := #[.int .i64 2097152, .int .i64 16777216, .int .i64 262144, .int .i64 16777216, .int .i64 0, .int .i64 0]) ?_ 4 _ rfl; (with_reducible repeat (first | refine aA ?_ _ | refine aH ?_ | refine aC ?_ _)); refine bM (cs := #[.int .i64 2097152, .int .i64 16777216, .int .i64 262144, .int .i64 0, .int .i64 0, .int .i64 0]) ?_ 3 _ rfl; (with_reducible repeat (first | refine aA ?_ _ | refine aH ?_ | refine aC ?_ _)); refine bM (cs := #[.int .i64 2097152, .int .i64 16777216, .int .i64 0, .int .i64 0, .int .i64 0, .int .i64 0]) ?_ 2 _ rfl; (with_reducible repeat (first | refine aA ?_ _ | refine aH ?_ | refine aC ?_ _)); refine bM (cs := #[.int .i64 2097152, .int .i64 0, .int .i64 0, .int .i64 0, .int .i64 0, .int .i64 0]) ?_ 1 _ rfl; (with_reducible repeat (first | refine aA ?_ _ | refine aH ?_ | refine aC ?_ _)); refine bM (cs := #[.int .i64 0, .int .i64 0, .int .i64 0, .int .i64 0, .int .i64 0, .int .i64 0]) ?_ 0 _ rfl; (with_reducible repeat (first | refine aA ?_ _ | refine aH ?_ | refine aC ?_ _)); exact um.out) Tryz.underlying24 rfl (by kernel_rfl)) rfl ?_
 exact ⟨by first | rfl | (simp [aQ, aN] <;> rfl) | (simp [*, aQ, aN] <;> rfl), by repeat (first | (with_reducible first | exact HB.out | apply ak | apply ah | apply au | refine aG ?_ adb.out) | exact HB.out)⟩
def cu.l0 : Nat → List Int → Int → Option (Bool)
 | 0, _, _ => none
 | k + 1, x3, x4 => if x4 < (x3.length : Int) then (if 0 ≤ x4 then (if (rd x3 x4) < 1 then (some false) else (if (rd x3 x4) > 17179869184 then (some false) else (cu.l0 k x3 (wrap64 (x4 + 1))))) else (none)) else (some true)
def cu.f (k : Nat) (aY : Int) (bu : Int) (zD : Int) (dI : Int) (dL : Int) (zC : Int) : Option (Bool) := cu.l0 k (([aY, bu, zD, dI, dL, zC] : List Int)) 0
theorem cu.calls (k : Nat) (aY : Int) (bu : Int) (zD : Int) (dI : Int) (dL : Int) (zC : Int) (r : Bool) (w : World) (h : cu.f k aY bu zD dI dL zC = some r) :
 Calls Tryz.prog 13 #[.agg #[.int .i64 aY, .int .i64 bu, .int .i64 zD, .int .i64 dI, .int .i64 dL, .int .i64 zC]] w fun e w' => e = .returned (.bool r) ∧ Below w.heap.size w w' := by
 have YT := Tryz.underlying24; have HB := aj.mk (Below.refl w.heap.size w); have H : (cu.l0 k (([aY, bu, zD, dI, dL, zC] : List Int)) 0) = some r := h; clear h
 obtain ⟨vK, J8⟩ : ∃ y_ : List Int, y_ = (([aY, bu, zD, dI, dL, zC] : List Int)) := ⟨_, rfl⟩
 replace H : (cu.l0 k vK 0) = some r := by first | (rw [J8]; with_reducible exact H) | (have ES := (Option.bind_some _ _).symm.trans H; rw [J8]; with_reducible exact ES) | (have ES := (Option.bind_some _ _).symm.trans H; with_reducible exact ES) | with_reducible exact H | (rw [J8]; exact H) | exact H
 have Ya := aj.mk J8; clear J8; have H' := aj.mk H; clear H
 go_enter Tryz.func13, Tryz.ntmps13
 go_wp2_with (first | ((with_reducible refine dH (N := 1) rfl ?_); refine dw ?hg (N := 1) ?hd (cs := #[.int .i64 aY, .int .i64 bu, .int .i64 zD, .int .i64 dI, .int .i64 dL, .int .i64 zC]) (t := 24) ?hr ?_; (case hd => rfl); (case hg => rfl); (case hr => first | (go_simp; done) | (go_simp; rfl)); intro yj hg w2 hbox hb; have bJ := aj.mk (aV (by repeat (first | (with_reducible first | exact HB.out | apply ak | apply ah | apply au) | exact HB.out)) hb); have dP := aj.mk (hbox); have dY := aj.mk ((by rw [hg]; exact (bg (by repeat (first | (with_reducible first | exact HB.out | apply ak | apply ah | apply au) | exact HB.out))) : w.heap.size ≤ yj)); have fH := aj.mk ((by rw [hg]; exact (bg (by repeat (first | (with_reducible first | exact HB.out | apply ak | apply ah | apply au) | exact HB.out))) : w.heap.size ≤ yj)); clear HB; have HB := bJ; have oP := dP; have akA := dY; have EU := fH; clear bJ dP dY fH; clear hb hbox hg; have Zf : w2.cell? ⟨yj, 0, none⟩ = some (.int .i64 aY) := (az oP.out 0).trans rfl; have Ze : w2.cell? ⟨yj, 1, none⟩ = some (.int .i64 bu) := (az oP.out 1).trans rfl; have Zd : w2.cell? ⟨yj, 2, none⟩ = some (.int .i64 zD) := (az oP.out 2).trans rfl; have Zc : w2.cell? ⟨yj, 3, none⟩ = some (.int .i64 dI) := (az oP.out 3).trans rfl; have Zb : w2.cell? ⟨yj, 4, none⟩ = some (.int .i64 dL) := (az oP.out 4).trans rfl; have Za : w2.cell? ⟨yj, 5, none⟩ = some (.int .i64 zC) := (az oP.out 5).trans rfl; have Y7 := ay oP.out 0; have Y6 := ay oP.out 1; have Y5 := ay oP.out 2; have Y4 := ay oP.out 3; have Y3 := ay oP.out 4; have Y2 := ay oP.out 5) | ((with_reducible refine dH (N := 17) rfl ?_); refine Kd.ab6 (Kd.int .i64) _ 22 ?hg (N := 17) ?hd (xs := ([aY, bu, zD, dI, dL, zC] : List Int)) (inner := [.int .i64 aY, .int .i64 bu, .int .i64 zD, .int .i64 dI, .int .i64 dL, .int .i64 zC]) (ok := fun _ => True) (Ik := fun _ => True) ?hr ?hp (fun _ hk => hk) trivial (Below.refl _ _) (Nat.le_refl _) (by simp) ?_; (case hd => rfl); (case hg => rfl); (case hr => first | (go_simp; done) | (go_simp; rfl)); (case hp => exact (fP.one (show Kd.M (Kd.int .i64) _ _ _ aY [.int .i64 aY] from rfl) (fP.one (show Kd.M (Kd.int .i64) _ _ _ bu [.int .i64 bu] from rfl) (fP.one (show Kd.M (Kd.int .i64) _ _ _ zD [.int .i64 zD] from rfl) (fP.one (show Kd.M (Kd.int .i64) _ _ _ dI [.int .i64 dI] from rfl) (fP.one (show Kd.M (Kd.int .i64) _ _ _ dL [.int .i64 dL] from rfl) (fP.one (show Kd.M (Kd.int .i64) _ _ _ zC [.int .i64 zC] from rfl) (fP.none _ _)))))))); intro af4 w4 ho5 hb hg_ TS; clear hg_ TS; (first | rw [← Ya.out] at ho5 | (simp only [Int.reduceToNat] at ho5; rw [← Ya.out] at ho5)); have bJ := aj.mk (Kd.mY ho5 (bg (by repeat (first | (with_reducible first | exact HB.out | apply ak | apply ah | apply au | refine aG ?_ EU.out) | exact HB.out)))); have dP := aj.mk (bH (g := yj) (o := .cells #[.int .i64 aY, .int .i64 bu, .int .i64 zD, .int .i64 dI, .int .i64 dL, .int .i64 zC] 24 (0, 0)) (by (with_reducible repeat (first | refine aA ?_ _ | refine aH ?_ | refine aC ?_ _)); exact oP.out) hb); have dY := aj.mk (aV (by repeat (first | (with_reducible first | exact HB.out | apply ak | apply ah | apply au | refine aG ?_ EU.out) | exact HB.out)) hb); clear oP; clear HB; have acZ := bJ; have oP := dP; have HB := dY; clear bJ dP dY; clear hb ho5))
 go_loopg [4] k (fun kq v4 w' => ∃ (nO : Int), v4 = .int .i64 nO ∧ aj (cu.l0 kq vK nO = some r) ∧ aj (kq ≤ k) ∧ aj (Kd.R (Kd.int .i64) 22 w' w.heap.size (fun _ => True) af4 vK) ∧ aj (w'.heap[yj]? = some (.cells #[.int .i64 aY, .int .i64 bu, .int .i64 zD, .int .i64 dI, .int .i64 dL, .int .i64 zC] 24 (0, 0))) ∧ aj (Below w.heap.size w w'))
 case atStart => exact ⟨(0), (by first | rfl | (simp; done) | (simp [*]; done)), H', ⟨Nat.le_refl _⟩, ⟨by (with_reducible repeat (first | apply Kd.dO | apply Kd.dN | apply Kd.eG)); exact acZ.out⟩, ⟨by (with_reducible repeat (first | refine aA ?_ _ | refine aH ?_ | refine aC ?_ _)); exact oP.out⟩, ⟨by repeat (first | (with_reducible first | exact HB.out | apply ak | apply ah | apply au | refine aG ?_ EU.out) | exact HB.out)⟩⟩
 case round =>
  clear H'; (try clear c1); (try clear p2); (try clear Zf); (try clear Ze); (try clear Zd); (try clear Zc); (try clear Zb); (try clear Za); (try clear Y7); (try clear Y6); (try clear Y5); (try clear Y4); (try clear Y3); (try clear Y2); obtain ⟨nO, rfl, HA, EO, FW, oP, HB⟩ := hrel
  cases gk with
  | zero => exact absurd HA.out (by simp [cu.l0])
  | succ k1 =>
    have H := HA.out; clear HA; simp only [cu.l0] at H
    by_cases c6 : nO < (vK.length : Int)
    · rw [if_pos c6] at H
      have tC : decide (nO < (vK.length : Int)) = true := decide_eq_true c6; clear c6
      by_cases c7 : 0 ≤ nO
      · rw [if_pos c7] at H
        have wz : decide (0 ≤ nO) = true := decide_eq_true c7; clear c7
        by_cases c8 : (rd vK nO) < 1
        · rw [if_pos c8] at H
          have Ey : decide ((rd vK nO) < 1) = true := decide_eq_true c8; clear c8; obtain rfl := Option.some.inj H; obtain ⟨Ao9, co9, eo9⟩ := Kd.je FW.out; subst eo9; have DJ : 0 ≤ (nO : Int) := of_decide_eq_true (by first | (with_reducible assumption) | assumption); have DF : nO < (vK.length : Int) := of_decide_eq_true (by first | (with_reducible assumption) | assumption); obtain ⟨PZ, e187, OO⟩ := Kd.gZ (Kd.kT FW.out).2.2 nO DJ DF
          cases e187
          replace DJ := eq_true DJ; replace DF := eq_true DF; go_wp2
          go_ret
          exact ⟨by first | rfl | (simp [aQ, aN] <;> rfl) | (simp [*, aQ, aN] <;> rfl), by repeat (first | (with_reducible first | exact HB.out | apply ak | apply ah | apply au | refine aG ?_ EU.out) | exact HB.out)⟩
        · rw [if_neg c8] at H
          have Ey : decide ((rd vK nO) < 1) = false := decide_eq_false c8; clear c8
          by_cases c10 : (rd vK nO) > 17179869184
          · rw [if_pos c10] at H
            have zy : decide (17179869184 < (rd vK nO)) = true := decide_eq_true c10; clear c10; obtain rfl := Option.some.inj H; obtain ⟨amC, al6, ahs⟩ := Kd.je FW.out; subst ahs; have DJ : 0 ≤ (nO : Int) := of_decide_eq_true (by first | (with_reducible assumption) | assumption); have DF : nO < (vK.length : Int) := of_decide_eq_true (by first | (with_reducible assumption) | assumption); obtain ⟨PZ, e187, OO⟩ := Kd.gZ (Kd.kT FW.out).2.2 nO DJ DF
            cases e187
            replace DJ := eq_true DJ; replace DF := eq_true DF; have MZ : 0 ≤ (nO : Int) := of_decide_eq_true (by first | (with_reducible assumption) | assumption); have MJ : nO < (vK.length : Int) := of_decide_eq_true (by first | (with_reducible assumption) | assumption); obtain ⟨UL, Zl, VK⟩ := Kd.gZ (Kd.kT FW.out).2.2 nO MZ MJ
            obtain rfl : PZ = UL := (by injection Zl)
            replace MZ := eq_true MZ; replace MJ := eq_true MJ; go_wp2
            go_ret
            exact ⟨by first | rfl | (simp [aQ, aN] <;> rfl) | (simp [*, aQ, aN] <;> rfl), by repeat (first | (with_reducible first | exact HB.out | apply ak | apply ah | apply au | refine aG ?_ EU.out) | exact HB.out)⟩
          · rw [if_neg c10] at H
            have zy : decide (17179869184 < (rd vK nO)) = false := decide_eq_false c10; clear c10; have H' := aj.mk H; clear H; obtain ⟨SA, RI, Us⟩ := Kd.je FW.out; subst Us; have DJ : 0 ≤ (nO : Int) := of_decide_eq_true (by first | (with_reducible assumption) | assumption); have DF : nO < (vK.length : Int) := of_decide_eq_true (by first | (with_reducible assumption) | assumption); obtain ⟨PZ, e187, OO⟩ := Kd.gZ (Kd.kT FW.out).2.2 nO DJ DF
            cases e187
            replace DJ := eq_true DJ; replace DF := eq_true DF; have MZ : 0 ≤ (nO : Int) := of_decide_eq_true (by first | (with_reducible assumption) | assumption); have MJ : nO < (vK.length : Int) := of_decide_eq_true (by first | (with_reducible assumption) | assumption); obtain ⟨UL, Zl, VK⟩ := Kd.gZ (Kd.kT FW.out).2.2 nO MZ MJ
            obtain rfl : PZ = UL := (by injection Zl)
            replace MZ := eq_true MZ; replace MJ := eq_true MJ; go_wp2
            go_roundg k1
            case measure => have := EO.out; omega
            case rel => exact ⟨(wrap64 (nO + 1)), (by first | rfl | (simp; done) | (simp [*]; done)), H', ⟨by have := EO.out; omega⟩, ⟨by (with_reducible repeat (first | apply Kd.dO | apply Kd.dN | apply Kd.eG)); exact FW.out⟩, ⟨by (with_reducible repeat (first | refine aA ?_ _ | refine aH ?_ | refine aC ?_ _)); exact oP.out⟩, ⟨by repeat (first | (with_reducible first | exact HB.out | apply ak | apply ah | apply au | refine aG ?_ EU.out) | exact HB.out)⟩⟩
      · rw [if_neg c7] at H
        exact absurd H (by simp)
    · rw [if_neg c6] at H
      have tC : decide (nO < (vK.length : Int)) = false := decide_eq_false c6; clear c6; obtain rfl := Option.some.inj H; obtain ⟨amB, al5, ahr⟩ := Kd.je FW.out; subst ahr; go_wp2
      go_ret
      exact ⟨by first | rfl | (simp [aQ, aN] <;> rfl) | (simp [*, aQ, aN] <;> rfl), by repeat (first | (with_reducible first | exact HB.out | apply ak | apply ah | apply au | refine aG ?_ EU.out) | exact HB.out)⟩
def dQ.f (a0 : Int) : Option (Bool) := if a0 ≥ (-70368744177664) then (some (decide (a0 ≤ 70368744177663))) else (some false)
theorem dQ.calls (a0 : Int) (r : Bool) (w : World) (h : dQ.f a0 = some r) :
 Calls Tryz.prog 51 #[.int .i64 a0] w fun e w' => e = .returned (.bool r) ∧ dA w w' := by
 have H : (if a0 ≥ (-70368744177664) then (some (decide (a0 ≤ 70368744177663))) else (some false)) = some r := h; clear h
 by_cases c2 : a0 ≥ (-70368744177664)
 · rw [if_pos c2] at H
   have Zu : decide ((-70368744177664) ≤ a0) = true := decide_eq_true c2; clear c2; obtain rfl := Option.some.inj H
   go_enter Tryz.func51, Tryz.ntmps51
   go_wp2
   go_ret
   exact ⟨by first | rfl | (simp; done) | (simp [*]; done), by repeat (first | exact dA.refl _ | apply dA.step)⟩
 · rw [if_neg c2] at H
   have Zu : decide ((-70368744177664) ≤ a0) = false := decide_eq_false c2; clear c2; obtain rfl := Option.some.inj H
   go_enter Tryz.func51, Tryz.ntmps51
   go_wp2
   go_ret
   exact ⟨by first | rfl | (simp; done) | (simp [*]; done), by repeat (first | exact dA.refl _ | apply dA.step)⟩
def dV.l0 : Nat → Int → Int → List Int → Int → Option (Int × Int × List Int)
 | 0, _, _, _, _ => none
 | k + 1, x0, x1, x5, x6 => if x6 < (wrap64 (x0 * x1)) then (if x5.length < 17592186044416 then (dV.l0 k x0 x1 (x5 ++ [0]) (wrap64 (x6 + 1))) else (none)) else (some (x0, x1, x5))
def dV.f (k : Nat) (a0 : Int) (a1 : Int) : Option (Int × Int × List Int) := dV.l0 k a0 a1 ([] : List Int) 0
theorem dV.calls (k : Nat) (a0 : Int) (a1 : Int) (r1 : Int) (r2 : Int) (r3 : List Int) (w : World) (h : dV.f k a0 a1 = some (r1, r2, r3)) :
 Calls Tryz.prog 45 #[.int .i64 a0, .int .i64 a1] w fun e w' => ∃ zS : Value, e = .returned (.agg #[.int .i64 r1, .int .i64 r2, zS]) ∧ Kd.R (Kd.int .i64) 22 w' w.heap.size (fun _ => True) zS r3 ∧ Below w.heap.size w w' := by
 have Cc := Tryz.underlying29; have HB := aj.mk (Below.refl w.heap.size w); have H : (dV.l0 k a0 a1 ([] : List Int) 0) = some (r1, r2, r3) := h; clear h; have H' := aj.mk H; clear H
 go_enter Tryz.func45, Tryz.ntmps45
 go_wp2_with (first | ((with_reducible refine dH (N := 4) rfl ?_); refine dw ?hg (N := 4) ?hd (cs := #[.int .i64 0, .int .i64 0, .slice none 0 0]) (t := 29) ?hr ?_; (case hd => rfl); (case hg => rfl); (case hr => first | (go_simp; done) | (go_simp; rfl)); intro vZ hg w3 hbox hb; have bJ := aj.mk (aV (by repeat (first | (with_reducible first | exact HB.out | apply ak | apply ah | apply au) | exact HB.out)) hb); have dP := aj.mk (hbox); have dY := aj.mk ((by rw [hg]; exact (bg (by repeat (first | (with_reducible first | exact HB.out | apply ak | apply ah | apply au) | exact HB.out))) : w.heap.size ≤ vZ)); have fH := aj.mk ((by rw [hg]; exact (bg (by repeat (first | (with_reducible first | exact HB.out | apply ak | apply ah | apply au) | exact HB.out))) : w.heap.size ≤ vZ)); clear HB; have HB := bJ; have rD := dP; have akz := dY; have Lh := fH; clear bJ dP dY fH; clear hb hbox hg))
 go_loopg [5, 6] k (fun kq v5 v6 w' => ∃ (JA : List Int) (Jz : Int), v6 = .int .i64 Jz ∧ aj (dV.l0 kq a0 a1 JA Jz = some (r1, r2, r3)) ∧ aj (kq ≤ k) ∧ aj (Kd.R (Kd.int .i64) 22 w' w.heap.size (fun _ => True) v5 JA) ∧ aj (w'.heap[vZ]? = some (.cells #[.int .i64 0, .int .i64 0, (.slice none 0 0)] 29 (0, 0))) ∧ aj (Below w.heap.size w w'))
 case atStart => exact ⟨(([] : List Int)), (0), (by first | rfl | (simp; done) | (simp [*]; done)), H', ⟨Nat.le_refl _⟩, ⟨by first | exact Kd.t_ _ _ _ _ _ | exact Kd.zL _ _ _ _ _ | exact Kd.zF _ _ _ _ _ | exact Kd.zK _ _ _ _ _ | exact Kd.zH _ _ _ _ _⟩, ⟨by (with_reducible repeat (first | refine aA ?_ _ | refine aH ?_ | refine aC ?_ _)); exact rD.out⟩, ⟨by repeat (first | (with_reducible first | exact HB.out | apply ak | apply ah | apply au | refine aG ?_ Lh.out) | exact HB.out)⟩⟩
 case round =>
  clear H'; (try clear p2); obtain ⟨JA, Jz, rfl, HA, EO, Va, rD, HB⟩ := hrel
  cases gk with
  | zero => exact absurd HA.out (by simp [dV.l0])
  | succ k1 =>
    have H := HA.out; clear HA; simp only [dV.l0] at H
    by_cases c4 : Jz < (wrap64 (a0 * a1))
    · rw [if_pos c4] at H
      have oZ : decide (Jz < (wrap64 (a0 * a1))) = true := decide_eq_true c4; clear c4
      by_cases c5 : JA.length < 17592186044416
      · rw [if_pos c5] at H
        have aii := aj.mk c5; clear c5
        obtain ⟨aax, J7⟩ : ∃ y_ : List Int, y_ = (JA ++ [0]) := ⟨_, rfl⟩
        replace H : (dV.l0 k1 a0 a1 aax (wrap64 (Jz + 1))) = some (r1, r2, r3) := by first | (rw [J7]; with_reducible exact H) | (have ES := (Option.bind_some _ _).symm.trans H; rw [J7]; with_reducible exact ES) | (have ES := (Option.bind_some _ _).symm.trans H; with_reducible exact ES) | with_reducible exact H | (rw [J7]; exact H) | exact H
        have acA := aj.mk J7; clear J7; have H' := aj.mk H; clear H
        go_wp2_with (first | ((with_reducible refine Jh (b := .append) (xs := #[.tmp 14, .tmp 15]) rfl ?_); at_builtin; refine Kd.UY (Kd.int .i64) (w0 := w) w.heap.size rfl (.tmp 14) (.tmp 15) 27 22 (.int .i64 0) 8 rfl Tryz.underlying27 info22 rfl (by decide) (by omega) u5 JA 0 [.int .i64 0] (fun _ => True) (fun _ => False) rfl rfl ?aP (fun _ hk => hk.elim) ?aF ?aO ?aB ?aS ?aL ?_; (case aP => exact rfl); (case aB => exact (by repeat (first | (with_reducible first | exact HB.out | apply ak | apply ah | apply au | refine aG ?_ Lh.out) | exact HB.out))); (case aF => exact (fun _ _ => trivial)); (case aO => exact (by (with_reducible repeat (first | apply Kd.dO | apply Kd.dN | apply Kd.eG)); exact Va.out)); (case aS => exact (bg (by repeat (first | (with_reducible first | exact HB.out | apply ak | apply ah | apply au | refine aG ?_ Lh.out) | exact HB.out)))); (case aL => have := aii.out; omega); intro ak5 w6 ho hb hg hat; rw [← acA.out] at ho; have bJ := aj.mk (xO (g := vZ) (o := .cells #[.int .i64 0, .int .i64 0, .slice none 0 0] 29 (0, 0)) (by (with_reducible repeat (first | refine aA ?_ _ | refine aH ?_ | refine aC ?_ _)); exact rD.out) hg (Kd.zI Va.out rD.out (by decide))); have dP := aj.mk (hb); have dY := aj.mk (ho); clear rD; clear HB; clear Va; have rD := bJ; have HB := dP; have acY := dY; clear bJ dP dY; clear ho hb hg hat))
        go_roundg k1
        case measure => have := EO.out; omega
        case rel => exact ⟨(aax), (wrap64 (Jz + 1)), (by first | rfl | (simp; done) | (simp [*]; done)), H', ⟨by have := EO.out; omega⟩, ⟨by (with_reducible repeat (first | apply Kd.dO | apply Kd.dN | apply Kd.eG)); exact acY.out⟩, ⟨by (with_reducible repeat (first | refine aA ?_ _ | refine aH ?_ | refine aC ?_ _)); exact rD.out⟩, ⟨by repeat (first | (with_reducible first | exact HB.out | apply ak | apply ah | apply au | refine aG ?_ Lh.out) | exact HB.out)⟩⟩
      · rw [if_neg c5] at H
        exact absurd H (by simp)
    · rw [if_neg c4] at H
      have oZ : decide (Jz < (wrap64 (a0 * a1))) = false := decide_eq_false c4; clear c4; simp only [Option.some.injEq, Prod.mk.injEq] at H; obtain ⟨rfl, rfl, rfl⟩ := H; obtain ⟨Ao7, co7, eo7⟩ := Kd.je Va.out; subst eo7; have AO : wr.cell? ⟨vZ, 0, none⟩ = some (.int .i64 0) := (az rD.out 0).trans rfl; have AL : wr.cell? ⟨vZ, 1, none⟩ = some (.int .i64 0) := (az rD.out 1).trans rfl; have AB : wr.cell? ⟨vZ, 2, none⟩ = some (.slice none 0 0) := (az rD.out 2).trans rfl; have Az := ay rD.out 0; have Aw := ay rD.out 1; have Au := ay rD.out 2; go_wp2
      refine bodyPost_ret (results_cell_row rfl _ _ vZ 29 #[.int .i64 a0, .int .i64 a1, .slice Ao7 JA.length co7] (0, 0) _ rfl (by (with_reducible repeat (first | refine aA ?_ _ | refine aH ?_ | refine aC ?_ _)); refine bM (cs := #[.int .i64 a0, .int .i64 a1, .slice none 0 0]) ?_ 2 _ rfl; (with_reducible repeat (first | refine aA ?_ _ | refine aH ?_ | refine aC ?_ _)); refine bM (cs := #[.int .i64 a0, .int .i64 0, .slice none 0 0]) ?_ 1 _ rfl; (with_reducible repeat (first | refine aA ?_ _ | refine aH ?_ | refine aC ?_ _)); refine bM (cs := #[.int .i64 0, .int .i64 0, .slice none 0 0]) ?_ 0 _ rfl; (with_reducible repeat (first | refine aA ?_ _ | refine aH ?_ | refine aC ?_ _)); exact rD.out) Tryz.underlying29 rfl (by kernel_rfl)) rfl ?_
      exact ⟨_, by first | rfl | (simp [aQ, aN] <;> rfl) | (simp [*, aQ, aN] <;> rfl), by (with_reducible repeat (first | apply Kd.dO | apply Kd.dN | apply Kd.eG)); exact Kd.jc (Kd.gI (p := ⟨vZ, 2, none⟩) (Kd.gI (p := ⟨vZ, 1, none⟩) (Kd.gI (p := ⟨vZ, 0, none⟩) (Kd.l_ Va.out rD.out (by decide)) (fun _ hk => hk.2) (.int .i64 a0)) (fun _ hk => hk.2) (.int .i64 a1)) (fun _ hk => hk.2) (.slice Ao7 JA.length co7)) (fun _ hk => trivial), by repeat (first | (with_reducible first | exact HB.out | apply ak | apply ah | apply au | refine aG ?_ Lh.out) | exact HB.out)⟩
end Go.Proofs.YtcfobekkchhbbaaGreat.PQ

namespace Go.Proofs.YtcfobekkchhbbaaGreat.PQ
open Go.RowKit Go.Proofs.af.aU Go.Proofs.af.a_ Go.Proofs.af.bf
attribute [local go_sem] jq jm kJ kH iM iL jo jl
set_option linter.unusedVariables false
set_option linter.unusedSimpArgs false
mutual
def bC.j0 : Nat → List Int → Int → Bool → Option (Int × Int × List Int × Int)
 | 0, _, _, _ => none
 | k + 1, x0, x4, x15 => if x15 = true then (some (0, 0, ([] : List Int), 1)) else ((dV.f k x4 x4).bind fun EI => (bC.l0 k x0 x4 0 EI.1 EI.2.1 EI.2.2))
def bC.l0 : Nat → List Int → Int → Int → Int → Int → List Int → Option (Int × Int × List Int × Int)
 | 0, _, _, _, _, _, _ => none
 | k + 1, x0, x4, x6, x200000, Ov, Hw => if x6 < x4 then (if 0 ≤ x6 then (if x6 < (x0.length : Int) then ((dQ.f (rd x0 x6)).bind fun t201 => (if t201 = true then (if 0 ≤ (wrap64 ((wrap64 (x6 * x4)) + x6)) then (if (wrap64 ((wrap64 (x6 * x4)) + x6)) < (Hw.length : Int) then (bC.l0 k x0 x4 (wrap64 (x6 + 1)) x200000 Ov (Hw.set ((wrap64 ((wrap64 (x6 * x4)) + x6)) : Int).toNat (rd x0 x6))) else (none)) else (none)) else (some (0, 0, ([] : List Int), 1)))) else (none)) else (none)) else (some (x200000, Ov, Hw, 0))
end
def bC.f (k : Nat) (l0 : List Int) : Option (Int × Int × List Int × Int) := if (l0.length : Int) < 1 then (bC.j0 k l0 (l0.length : Int) true) else (bC.j0 k l0 (l0.length : Int) (decide ((l0.length : Int) > 8)))
def bC.T11 : Bool × List (List Nat × List Nat) := (true, [([], []), ([0], [0]), ([], []), ([], []), ([2, 3], [2, 3]), ([], []), ([4, 5], [4, 5]), ([], []), ([], []), ([7, 8], [7, 8]), ([9], [9]), ([1, 6, 0, 1, 2, 3, 4, 5, 6, 7, 8, 9, 10], [1, 6]), ([11, 10, 0, 1, 2, 3, 4, 5, 6, 7, 8, 9, 10], [10, 11])])
def bC.B11 : List Nat := [0, 1, 0, 0, 12, 0, 60, 0, 0, 384, 896, 2047, 4095]
theorem bC.aaA : pO .any (opsOf Tryz.f76 11) = bC.T11 := by kernel_rfl
theorem bC.Zv : qc bC.T11.2 bC.B11 = true := by kernel_rfl
theorem bC.calls (k : Nat) (A0 : Option Addr) (c0 : Nat) (l0 : List Int) (r1 : Int) (r2 : Int) (r3 : List Int) (r4 : Int) (w : World) (hr0 : Kd.C (Kd.int .i64) w A0 l0.length l0) (hc0 : l0.length ≤ c0) (h : bC.f k l0 = some (r1, r2, r3, r4)) :
 Calls Tryz.prog 76 #[.slice A0 l0.length c0] w fun e w' => ∃ zS : Value, e = .returned (.tuple #[.agg #[.int .i64 r1, .int .i64 r2, zS], .int .i64 r4]) ∧ Kd.R (Kd.int .i64) 22 w' w.heap.size (fun _ => True) zS r3 ∧ Below w.heap.size w w' := by
 have Cc := Tryz.underlying29; have HR0 := aj.mk hr0; have HC0 := aj.mk hc0; clear hr0 hc0; have HB := aj.mk (Below.refl w.heap.size w); have H : (if (l0.length : Int) < 1 then (bC.j0 k l0 (l0.length : Int) true) else (bC.j0 k l0 (l0.length : Int) (decide ((l0.length : Int) > 8)))) = some (r1, r2, r3, r4) := h; clear h; have HC2 := aj.mk H; clear H
 go_enter Tryz.func76, Tryz.ntmps76
 go_upto_region 2 with (first | ((with_reducible refine dH (N := 2) rfl ?_); refine dw ?hg (N := 2) ?hd (cs := #[.int .i64 0, .int .i64 0, .slice none 0 0]) (t := 29) ?hr ?_; (case hd => rfl); (case hg => rfl); (case hr => first | (go_simp; done) | (go_simp; rfl)); intro jZ hg w3 hbox hb; have bJ := aj.mk (aV (by repeat (first | (with_reducible first | exact HB.out | apply ak | apply ah | apply au) | exact HB.out)) hb); have dP := aj.mk (hbox); have dY := aj.mk ((by rw [hg]; exact (bg (by repeat (first | (with_reducible first | exact HB.out | apply ak | apply ah | apply au) | exact HB.out))) : w.heap.size ≤ jZ)); have fH := aj.mk ((by rw [hg]; exact (bg (by repeat (first | (with_reducible first | exact HB.out | apply ak | apply ah | apply au) | exact HB.out))) : w.heap.size ≤ jZ)); clear HB; have HB := bJ; have gy := dP; have aky := dY; have sN := fH; clear bJ dP dY fH; clear hb hbox hg))
 (try simp only [Act.put, List.setIfInBounds_toArray, List.set_cons_zero, List.set_cons_succ])
 go_cut [15] (fun v15 wc => ∃ (kq : Nat) (jf : Bool), v15 = .bool jf ∧ aj (bC.j0 kq l0 (l0.length : Int) jf = some (r1, r2, r3, r4)) ∧ aj (kq ≤ k) ∧ aj (wc.heap[jZ]? = some (.cells #[.int .i64 0, .int .i64 0, (.slice none 0 0)] 29 (0, 0))) ∧ aj (Below w.heap.size w wc))
 case first =>
  have H := HC2.out; clear HC2
  by_cases c4 : (l0.length : Int) < 1
  · rw [if_pos c4] at H
    have oZ : decide ((l0.length : Int) < 1) = true := decide_eq_true c4; have Ez : decide (l0.length < 1) = true := decide_eq_true (by omega); clear c4
    (first | rw [oZ] | (simp only [bT, b_]; rw [oZ]) | skip)
    have H' := aj.mk H; clear H; go_wp2
    go_meet
    case rel => exact ⟨_, (true), (by first | rfl | (simp; done) | (simp [*]; done)), H', ⟨by first | omega | exact Nat.le_refl _⟩, ⟨by (with_reducible repeat (first | refine aA ?_ _ | refine aH ?_ | refine aC ?_ _)); exact gy.out⟩, ⟨by repeat (first | (with_reducible first | exact HB.out | apply ak | apply ah | apply au | refine aG ?_ sN.out) | exact HB.out)⟩⟩
  · rw [if_neg c4] at H
    have oZ : decide ((l0.length : Int) < 1) = false := decide_eq_false c4; have Ez : decide (l0.length < 1) = false := decide_eq_false (by omega); clear c4
    (first | rw [oZ] | (simp only [bT, b_]; rw [oZ]) | skip)
    have H' := aj.mk H; clear H; go_wp2
    go_meet
    case rel => exact ⟨_, (decide ((l0.length : Int) > 8)), (by first | rfl | (simp; done) | (simp [*]; done)), H', ⟨by first | omega | exact Nat.le_refl _⟩, ⟨by (with_reducible repeat (first | refine aA ?_ _ | refine aH ?_ | refine aC ?_ _)); exact gy.out⟩, ⟨by repeat (first | (with_reducible first | exact HB.out | apply ak | apply ah | apply au | refine aG ?_ sN.out) | exact HB.out)⟩⟩
 case rest =>
  clear HC2; (try clear p2); (try clear c4); (try clear oZ); (try clear Ez); obtain ⟨kq, jf, rfl, HA, HJ1, gy, HB⟩ := hcut
  cases kq with
  | zero => exact absurd HA.out (by simp [bC.j0])
  | succ Vh =>
    have H := HA.out; clear HA; simp only [bC.j0] at H
    by_cases c5 : jf = true
    · subst c5
      rw [if_pos rfl] at H; simp only [Option.some.injEq, Prod.mk.injEq] at H; obtain ⟨rfl, rfl, rfl, rfl⟩ := H; have sZ : wc.cell? ⟨jZ, 0, none⟩ = some (.int .i64 0) := (az gy.out 0).trans rfl; have sW : wc.cell? ⟨jZ, 1, none⟩ = some (.int .i64 0) := (az gy.out 1).trans rfl; have uJ : wc.cell? ⟨jZ, 2, none⟩ = some (.slice none 0 0) := (az gy.out 2).trans rfl; have sV := ay gy.out 0; have sU := ay gy.out 1; have uI := ay gy.out 2; go_wp2
      refine bodyPost_ret (ni rfl _ _ jZ 29 #[.int .i64 0, .int .i64 0, .slice none 0 0] (0, 0) _ rfl (by (with_reducible repeat (first | refine aA ?_ _ | refine aH ?_ | refine aC ?_ _)); refine bM (cs := #[.int .i64 0, .int .i64 0, .slice none 0 0]) ?_ 2 _ rfl; (with_reducible repeat (first | refine aA ?_ _ | refine aH ?_ | refine aC ?_ _)); refine bM (cs := #[.int .i64 0, .int .i64 0, .slice none 0 0]) ?_ 1 _ rfl; (with_reducible repeat (first | refine aA ?_ _ | refine aH ?_ | refine aC ?_ _)); refine bM (cs := #[.int .i64 0, .int .i64 0, .slice none 0 0]) ?_ 0 _ rfl; (with_reducible repeat (first | refine aA ?_ _ | refine aH ?_ | refine aC ?_ _)); exact gy.out) Tryz.underlying29 rfl (by kernel_rfl)) rfl ?_
      exact ⟨_, by first | rfl | (simp [aQ, aN] <;> rfl) | (simp [*, aQ, aN] <;> rfl), by first | exact Kd.t_ _ _ _ _ _ | exact Kd.zL _ _ _ _ _ | exact Kd.zF _ _ _ _ _ | exact Kd.zK _ _ _ _ _ | exact Kd.zH _ _ _ _ _, by repeat (first | (with_reducible first | exact HB.out | apply ak | apply ah | apply au | refine aG ?_ sN.out) | exact HB.out)⟩
    · replace c5 := Bool.eq_false_iff.mpr c5
      subst c5
      have H1 : ((dV.f Vh (l0.length : Int) (l0.length : Int)).bind fun EI => (bC.l0 Vh l0 (l0.length : Int) 0 EI.1 EI.2.1 EI.2.2)) = some (r1, r2, r3, r4) := by rw [if_neg (show ¬ (false = true) by decide)] at H; exact H
      clear H; have H := H1; clear H1; replace H := Option.bind_eq_some_iff.mp H; obtain ⟨⟨t194, t195, t196⟩, Yj, H⟩ := H; replace H : (bC.l0 Vh l0 (l0.length : Int) 0 t194 t195 t196) = some (r1, r2, r3, r4) := H; have A7 := aj.mk Yj; clear Yj; have H' := aj.mk H; clear H
      go_wp2_with (first | ((with_reducible refine aJ (f := 45) rfl ?_); refine bF (some 19) rfl rfl Tryz.func45 (by kernel_rfl) rfl #[.int .i64 (l0.length : Int), .int .i64 (l0.length : Int)] rfl (by (try simp only [List.map_toArray, List.map_cons, List.map_nil]); first | done | rfl | (simp only [List.length_drop, List.length_take]; rfl)) ?_; (with_reducible refine (dV.calls Vh (l0.length : Int) (l0.length : Int) t194 t195 t196 _ A7.out).mono ?_); rintro e w8 ⟨ak4, rfl, ho0, hb⟩; refine ⟨_, rfl, ?_⟩; have bJ := aj.mk (Kd.mY ho0 (bg (by repeat (first | (with_reducible first | exact HB.out | apply ak | apply ah | apply au | refine aG ?_ sN.out) | exact HB.out)))); have dP := aj.mk (bH (g := jZ) (o := .cells #[.int .i64 0, .int .i64 0, .slice none 0 0] 29 (0, 0)) (by (with_reducible repeat (first | refine aA ?_ _ | refine aH ?_ | refine aC ?_ _)); exact gy.out) hb); have dY := aj.mk (aV (by repeat (first | (with_reducible first | exact HB.out | apply ak | apply ah | apply au | refine aG ?_ sN.out) | exact HB.out)) hb); clear gy; clear HB; have Ld := bJ; have gy := dP; have HB := dY; clear bJ dP dY; (try clear hb); (try clear hb2); (try clear hk); (try clear hi); (try clear ho0)) | ((with_reducible refine dH (N := 5) rfl ?_); refine dw ?hg (N := 5) ?hd (cs := #[.int .i64 0, .int .i64 0, .slice none 0 0]) (t := 29) ?hr ?_; (case hd => rfl); (case hg => rfl); (case hr => first | (go_simp; done) | (go_simp; rfl)); intro oC hg w9 hbox hb; have bJ := aj.mk (Kd.oI (by (with_reducible repeat (first | apply Kd.dO | apply Kd.dN | apply Kd.eG)); exact Ld.out) hb); have dP := aj.mk (bH (g := jZ) (o := .cells #[.int .i64 0, .int .i64 0, .slice none 0 0] 29 (0, 0)) (by (with_reducible repeat (first | refine aA ?_ _ | refine aH ?_ | refine aC ?_ _)); exact gy.out) hb); have dY := aj.mk (aV (by repeat (first | (with_reducible first | exact HB.out | apply ak | apply ah | apply au | refine aG ?_ sN.out) | exact HB.out)) hb); have fH := aj.mk (hbox); have jM := aj.mk ((by rw [hg]; exact (bg (by repeat (first | (with_reducible first | exact HB.out | apply ak | apply ah | apply au | refine aG ?_ sN.out) | exact HB.out))) : w.heap.size ≤ oC)); have kQ := aj.mk ((by rw [hg]; exact (bg (by repeat (first | (with_reducible first | exact HB.out | apply ak | apply ah | apply au | refine aG ?_ sN.out) | exact HB.out))) : w.heap.size ≤ oC)); have kY := aj.mk ((by rw [hg]; exact Nat.ne_of_lt (fB (g := jZ) (o := .cells #[.int .i64 0, .int .i64 0, .slice none 0 0] 29 (0, 0)) (by (with_reducible repeat (first | refine aA ?_ _ | refine aH ?_ | refine aC ?_ _)); exact gy.out)) : jZ ≠ oC)); have uV := aj.mk ((by rw [hg]; exact Nat.ne_of_gt (fB (g := jZ) (o := .cells #[.int .i64 0, .int .i64 0, .slice none 0 0] 29 (0, 0)) (by (with_reducible repeat (first | refine aA ?_ _ | refine aH ?_ | refine aC ?_ _)); exact gy.out)) : oC ≠ jZ)); clear Ld; clear gy; clear HB; have Ld := bJ; have gy := dP; have HB := dY; have jA := fH; have akx := jM; have He := kQ; have qE := kY; have Be := uV; clear bJ dP dY fH jM kQ kY uV; clear hb hbox hg; have XQ := Be.out; have XM := qE.out; have xI : w9.cell? ⟨oC, 0, none⟩ = some (.int .i64 0) := (az jA.out 0).trans rfl; have xH : w9.cell? ⟨oC, 1, none⟩ = some (.int .i64 0) := (az jA.out 1).trans rfl; have xG : w9.cell? ⟨oC, 2, none⟩ = some (.slice none 0 0) := (az jA.out 2).trans rfl; have xw := ay jA.out 0; have xu := ay jA.out 1; have xq := ay jA.out 2; obtain ⟨SA, RI, Us⟩ := Kd.je Ld.out; subst Us))
      go_loopg [6] Vh (fun kq v6 w' => ∃ (gB : Int) (lW : Int) (jT : Int) (gV : List Int) (u200002 : Value), v6 = .int .i64 gB ∧ aj (bC.l0 kq l0 (l0.length : Int) gB t194 t195 gV = some (r1, r2, r3, r4)) ∧ aj (kq ≤ Vh) ∧ aj (Kd.R (Kd.int .i64) 22 w' w.heap.size (fun _ => True) u200002 gV) ∧ aj (w'.heap[jZ]? = some (.cells #[.int .i64 lW, .int .i64 jT, (.slice none 0 0)] 29 (0, 0))) ∧ aj (w'.heap[oC]? = some (.cells #[.int .i64 t194, .int .i64 t195, u200002] 29 (0, 0))) ∧ aj (Below w.heap.size w w'))
      case atStart => exact ⟨(0), (0), (0), (t196), (.slice SA t196.length RI), (by first | rfl | (simp; done) | (simp [*]; done)), H', ⟨Nat.le_refl _⟩, ⟨by (with_reducible repeat (first | apply Kd.dO | apply Kd.dN | apply Kd.eG)); exact Kd.jc (Kd.gI (p := ⟨oC, 2, none⟩) (Kd.gI (p := ⟨oC, 1, none⟩) (Kd.gI (p := ⟨oC, 0, none⟩) (Kd.l_ Ld.out jA.out (by decide)) (fun _ hk => hk.2) (.int .i64 t194)) (fun _ hk => hk.2) (.int .i64 t195)) (fun _ hk => hk.2) (.slice SA t196.length RI)) (fun _ hk => trivial)⟩, ⟨by (with_reducible repeat (first | refine aA ?_ _ | refine aH ?_ | refine aC ?_ _)); refine iw ?_ qE.out _; (with_reducible repeat (first | refine aA ?_ _ | refine aH ?_ | refine aC ?_ _)); refine iw ?_ qE.out _; (with_reducible repeat (first | refine aA ?_ _ | refine aH ?_ | refine aC ?_ _)); refine iw ?_ qE.out _; (with_reducible repeat (first | refine aA ?_ _ | refine aH ?_ | refine aC ?_ _)); exact gy.out⟩, ⟨by (with_reducible repeat (first | refine aA ?_ _ | refine aH ?_ | refine aC ?_ _)); refine bM (cs := #[.int .i64 t194, .int .i64 t195, .slice none 0 0]) ?_ 2 _ rfl; (with_reducible repeat (first | refine aA ?_ _ | refine aH ?_ | refine aC ?_ _)); refine bM (cs := #[.int .i64 t194, .int .i64 0, .slice none 0 0]) ?_ 1 _ rfl; (with_reducible repeat (first | refine aA ?_ _ | refine aH ?_ | refine aC ?_ _)); refine bM (cs := #[.int .i64 0, .int .i64 0, .slice none 0 0]) ?_ 0 _ rfl; (with_reducible repeat (first | refine aA ?_ _ | refine aH ?_ | refine aC ?_ _)); exact jA.out⟩, ⟨by repeat (first | (with_reducible first | exact HB.out | apply ak | apply ah | apply au | refine aG ?_ sN.out | refine aG ?_ He.out) | exact HB.out)⟩⟩
      case round =>
       clear H'; (try clear c1); (try clear p2); (try clear c4); (try clear oZ); (try clear Ez); (try clear c5); (try clear c7); (try clear c10); (try clear xI); (try clear xH); (try clear xG); (try clear sZ); (try clear sW); (try clear uJ); (try clear xw); (try clear xu); (try clear xq); (try clear sV); (try clear sU); (try clear uI); (try clear p2); obtain ⟨gB, lW, jT, gV, u200002, rfl, HA, Dj, gY, gy, jA, HB⟩ := hrel
       cases gk with
       | zero => exact absurd HA.out (by simp [bC.l0])
       | succ k2 =>
         have H := HA.out; clear HA; simp only [bC.l0] at H
         by_cases c13 : gB < (l0.length : Int)
         · rw [if_pos c13] at H
           have uZ : decide (gB < (l0.length : Int)) = true := decide_eq_true c13; clear c13
           by_cases c14 : 0 ≤ gB
           · rw [if_pos c14] at H
             have pI : decide (0 ≤ gB) = true := decide_eq_true c14; clear c14
             by_cases c15 : gB < (l0.length : Int)
             · rw [if_pos c15] at H
               have Gy : decide (gB < (l0.length : Int)) = true := decide_eq_true c15; clear c15; replace H := Option.bind_eq_some_iff.mp H; obtain ⟨t201, E8, H⟩ := H; replace H : (if t201 = true then (if 0 ≤ (wrap64 ((wrap64 (gB * (l0.length : Int))) + gB)) then (if (wrap64 ((wrap64 (gB * (l0.length : Int))) + gB)) < (gV.length : Int) then (bC.l0 k2 l0 (l0.length : Int) (wrap64 (gB + 1)) t194 t195 (gV.set ((wrap64 ((wrap64 (gB * (l0.length : Int))) + gB)) : Int).toNat (rd l0 gB))) else (none)) else (none)) else (some (0, 0, ([] : List Int), 1))) = some (r1, r2, r3, r4) := H; have Jw := aj.mk E8; clear E8
               by_cases c17 : t201 = true
               · subst c17
                 rw [if_pos rfl] at H
                 obtain ⟨Ar, OV⟩ : ∃ j_ : Int, (wrap64 ((wrap64 (gB * (l0.length : Int))) + gB)) = j_ := ⟨_, rfl⟩
                 replace H : (if 0 ≤ (Ar) then (if (Ar) < (gV.length : Int) then (bC.l0 k2 l0 (l0.length : Int) (wrap64 (gB + 1)) t194 t195 (gV.set ((Ar) : Int).toNat (rd l0 gB))) else (none)) else (none)) = some (r1, r2, r3, r4) := by first | (rw [OV] at H; exact H) | (simp only [OV] at H ⊢; exact H)
                 (try rw [OV] at Jw)
                 have agP : (IntKind.i64.wrap ((wrap64 (gB * (l0.length : Int))) + gB)) = Ar := (bT _).trans OV
                 by_cases c19 : 0 ≤ (Ar)
                 · rw [if_pos c19] at H
                   have KN : decide (0 ≤ (Ar)) = true := decide_eq_true c19; clear c19
                   by_cases c20 : (Ar) < (gV.length : Int)
                   · rw [if_pos c20] at H
                     have UE : decide ((Ar) < (gV.length : Int)) = true := decide_eq_true c20; clear c20
                     obtain ⟨aaw, J6⟩ : ∃ y_ : List Int, y_ = (gV.set ((Ar) : Int).toNat (rd l0 gB)) := ⟨_, rfl⟩
                     replace H : (bC.l0 k2 l0 (l0.length : Int) (wrap64 (gB + 1)) t194 t195 aaw) = some (r1, r2, r3, r4) := by first | (rw [J6]; with_reducible exact H) | (have ES := (Option.bind_some _ _).symm.trans H; rw [J6]; with_reducible exact ES) | (have ES := (Option.bind_some _ _).symm.trans H; with_reducible exact ES) | with_reducible exact H | (rw [J6]; exact H) | exact H
                     have acz := aj.mk J6; clear J6; have H' := aj.mk H; clear H; have MX : 0 ≤ (gB : Int) := of_decide_eq_true (by first | (with_reducible assumption) | assumption); have MI : gB < (l0.length : Int) := of_decide_eq_true (by first | (with_reducible assumption) | assumption); obtain ⟨UK, Zk, uH⟩ := Kd.gZ HR0.out gB MX MI
                     cases Zk
                     replace uH := (HB.out.cell (World.block_lt_of_cell? w _ uH)).trans uH; replace MX := eq_true MX; replace MI := eq_true MI
                     try go_wp2_with (first | ((with_reducible refine aJ (f := 51) rfl ?_); refine bF (some 29) rfl rfl Tryz.func51 (by kernel_rfl) rfl #[.int .i64 (rd l0 gB)] rfl (by (try simp only [List.map_toArray, List.map_cons, List.map_nil]); first | done | rfl | (simp only [List.length_drop, List.length_take]; rfl)) ?_; (with_reducible refine (dQ.calls (rd l0 gB) true _ Jw.out).mono ?_); rintro e w' ⟨rfl, ⟨nd, rfl⟩⟩; refine ⟨_, rfl, ?_⟩; (try (rw [uK wr]; generalize DW : World.drewN wr _ = wr; have bJ : aj (Kd.R (Kd.int .i64) 22 wr w.heap.size (fun _ => True) u200002 gV) := ⟨by rw [← DW]; exact (by (with_reducible repeat (first | apply Kd.dO | apply Kd.dN | apply Kd.eG)); exact gY.out)⟩; have dP : aj (wr.heap[jZ]? = some (.cells #[.int .i64 lW, .int .i64 jT, .slice none 0 0] 29 (0, 0))) := ⟨by rw [← DW]; exact (by (with_reducible repeat (first | refine aA ?_ _ | refine aH ?_ | refine aC ?_ _)); exact gy.out)⟩; have dY : aj (wr.heap[oC]? = some (.cells #[.int .i64 t194, .int .i64 t195, u200002] 29 (0, 0))) := ⟨by rw [← DW]; exact (by (with_reducible repeat (first | refine aA ?_ _ | refine aH ?_ | refine aC ?_ _)); exact jA.out)⟩; have fH : aj (Below w.heap.size w wr) := ⟨by rw [← DW]; exact (by repeat (first | (with_reducible first | exact HB.out | apply ak | apply ah | apply au | refine aG ?_ sN.out | refine aG ?_ He.out) | exact HB.out))⟩; clear gY gy jA HB DW; have gY := bJ; have gy := dP; have jA := dY; have HB := fH; clear bJ dP dY fH))))
                     have bJ := aj.mk (Kd.eG gY.out); have dP := aj.mk (aH gy.out); have dY := aj.mk (aH jA.out); have fH := aj.mk (au HB.out); clear gY; clear gy; clear jA; clear HB; have gY := bJ; have gy := dP; have jA := dY; have HB := fH; clear bJ dP dY fH; have YB : 0 ≤ (gB : Int) := of_decide_eq_true (by first | (with_reducible assumption) | assumption); have Yz : gB < (l0.length : Int) := of_decide_eq_true (by first | (with_reducible assumption) | assumption); obtain ⟨abQ, ahB, y7⟩ := Kd.gZ HR0.out gB YB Yz; have OQ := y7
                     obtain rfl : UK = abQ := (by injection ahB)
                     replace y7 := (HB.out.cell (World.block_lt_of_cell? w _ y7)).trans y7; replace YB := eq_true YB; replace Yz := eq_true Yz; have p21 : 0 ≤ ((Ar) : Int) := of_decide_eq_true (by first | (with_reducible assumption) | assumption); have q21 : ((Ar) : Int) < ((gV.length : Int) : Int) := of_decide_eq_true (by first | (with_reducible assumption) | assumption); obtain ⟨aa_, abq, abh, aba, ahl, al7, ac2⟩ := Kd.UU gY.out (by omega)
                     (first | cases abh | (injection abh with WU en_ ec_; (first | subst WU | (injection WU with WU; subst WU)); subst ec_; clear en_))
                     have aiz := aj.mk aba; have aix := aj.mk ac2; clear aba ahl ac2; obtain ⟨YQ, Y8⟩ := Kd.Qb 0 gY.out ((Ar) : Int) p21 q21; replace p21 := eq_true p21; replace q21 := eq_true q21; have Z4 := Kd.UQ gY.out ((Ar) : Int) (rd l0 gB); rw [← acz.out] at Z4; have acW := aj.mk Z4; clear Z4; refine zU (n := 13) (S := fun w' => w'.cell? ⟨oC, 0, none⟩ = some (.int .i64 t194) ∧ w'.cell? ⟨oC, 1, none⟩ = some (.int .i64 t195) ∧ w'.cell? ⟨oC, 2, none⟩ = some (.slice (some ⟨aa_, 0, none⟩) gV.length abq) ∧ w'.cell? (UK.add (gB).toNat) = some (.int .i64 (rd l0 gB))) (ds := [12]) #[false, false, false, false, false, false, false, false, false, false, false, false, false] (by kernel_rfl) rfl rfl ⟨(az jA.out 0).trans rfl, (az jA.out 1).trans rfl, (az jA.out 2).trans rfl, ((HB.out.cell (World.block_lt_of_cell? w _ OQ)).trans OQ)⟩ (fun hHeld => ?_); refine qA bC.aaA bC.Zv (fun jh Fa => ?_)
                     generalize wr.drew = w22 at gY gy jA HB aix acW Y8 y7 YQ hHeld ⊢; refine fG (i := 0) (N := some 33) (v := ?_) (a' := ?_) #[true, false, false, false, false, false, false, false, false, false, false, false, false] rfl rfl (dM jh.out (by kernel_rfl)) (fun _ _ _ h => h) (Or.inl ⟨by rfl, ?_⟩) ?_ ?_
                     rotate_left
                     · intro w'
                       go_simp
                       with_reducible rfl
                     rotate_left
                     · simp only [Act.put, List.setIfInBounds_toArray, List.set_cons_zero, List.set_cons_succ, bT, b_]
                       rfl
                     refine fG (i := 2) (N := some 35) (v := ?_) (a' := ?_) #[true, false, true, false, false, false, false, false, false, false, false, false, false] rfl rfl (dM jh.out (by kernel_rfl)) (fun _ _ _ h => h) (Or.inl ⟨by rfl, ?_⟩) ?_ ?_
                     rotate_left
                     · intro w'
                       go_simp
                       with_reducible rfl
                     rotate_left
                     · simp only [Act.put, List.setIfInBounds_toArray, List.set_cons_zero, List.set_cons_succ, bT, b_]
                       rfl
                     refine fG (i := 3) (N := some 36) (v := ?_) (a' := ?_) #[true, false, true, true, false, false, false, false, false, false, false, false, false] rfl rfl (dM jh.out (by kernel_rfl)) (fun _ _ _ h => h) (Or.inl ⟨by rfl, ?_⟩) ?_ ?_
                     rotate_left
                     · intro w'
                       go_simp
                       with_reducible rfl
                     rotate_left
                     · simp only [Act.put, List.setIfInBounds_toArray, List.set_cons_zero, List.set_cons_succ, bT, b_]
                       rfl
                     refine fG (i := 4) (N := some 37) (v := ?_) (a' := ?_) #[true, false, true, true, true, false, false, false, false, false, false, false, false] rfl rfl (dM jh.out (by kernel_rfl)) (fun _ _ _ h => h) (Or.inl ⟨by rfl, ?_⟩) ?_ ?_
                     rotate_left
                     · intro w'
                       go_simp
                       with_reducible rfl
                     rotate_left
                     · simp only [Act.put, List.setIfInBounds_toArray, List.set_cons_zero, List.set_cons_succ, bT, b_]
                       rfl
                     refine fG (i := 5) (N := some 38) (v := ?_) (a' := ?_) #[true, false, true, true, true, true, false, false, false, false, false, false, false] rfl rfl (dM jh.out (by kernel_rfl)) (fun _ _ _ h => h) (Or.inl ⟨by rfl, ?_⟩) ?_ ?_
                     rotate_left
                     · intro w'
                       go_simp
                       with_reducible rfl
                     rotate_left
                     · simp only [Act.put, List.setIfInBounds_toArray, List.set_cons_zero, List.set_cons_succ, bT, b_]
                       rfl
                     refine fG (i := 6) (N := some 39) (v := ?_) (a' := ?_) #[true, false, true, true, true, true, true, false, false, false, false, false, false] rfl rfl (dM jh.out (by kernel_rfl)) (fun _ _ _ h => h) (Or.inl ⟨by rfl, ?_⟩) ?_ ?_
                     rotate_left
                     · intro w'
                       go_simp
                       with_reducible rfl
                     rotate_left
                     · simp only [Act.put, List.setIfInBounds_toArray, List.set_cons_zero, List.set_cons_succ, bT, b_]
                       rfl
                     refine fG (i := 7) (N := some 40) (v := ?_) (a' := ?_) #[true, false, true, true, true, true, true, true, false, false, false, false, false] rfl rfl (dM jh.out (by kernel_rfl)) (fun _ _ _ h => h) (Or.inl ⟨by rfl, ?_⟩) ?_ ?_
                     rotate_left
                     · intro w'
                       go_simp
                       with_reducible rfl
                     rotate_left
                     · simp only [Act.put, List.setIfInBounds_toArray, List.set_cons_zero, List.set_cons_succ, bT, b_]
                       rfl
                     refine fG (i := 8) (N := some 41) (v := ?_) (a' := ?_) #[true, false, true, true, true, true, true, true, true, false, false, false, false] rfl rfl (dM jh.out (by kernel_rfl)) (fun _ _ _ h => h) (Or.inl ⟨by rfl, ?_⟩) ?_ ?_
                     rotate_left
                     · intro w'
                       go_simp
                       with_reducible rfl
                     rotate_left
                     · simp only [Act.put, List.setIfInBounds_toArray, List.set_cons_zero, List.set_cons_succ, bT, b_]
                       rfl
                     refine fG (i := 9) (N := some 42) (v := ?_) (a' := ?_) #[true, false, true, true, true, true, true, true, true, true, false, false, false] rfl rfl (dM jh.out (by kernel_rfl)) (fun _ _ _ h => h) (Or.inl ⟨by rfl, ?_⟩) ?_ ?_
                     rotate_left
                     · intro w'
                       go_simp
                       with_reducible rfl
                     rotate_left
                     · simp only [Act.put, List.setIfInBounds_toArray, List.set_cons_zero, List.set_cons_succ, bT, b_]
                       rfl
                     refine pq (i := 1) (N := some 34) (v := ?_) (a' := ?_) #[true, true, true, true, true, true, true, true, true, true, false, false, false] rfl rfl (iR jh.out Fa.out (by kernel_rfl)) (fun _ _ _ h => h) (Or.inl ⟨by rfl, ?_⟩) hHeld ?_ ?_
                     rotate_left
                     · rintro w' ⟨s0, s1, s2, s3⟩
                       go_simp
                       with_reducible rfl
                     rotate_left
                     · simp only [Act.put, List.setIfInBounds_toArray, List.set_cons_zero, List.set_cons_succ, bT, b_]
                       rfl
                     refine pq (i := 10) (N := some 43) (v := ?_) (a' := ?_) #[true, true, true, true, true, true, true, true, true, true, true, false, false] rfl rfl (iR jh.out Fa.out (by kernel_rfl)) (fun _ _ _ h => h) (Or.inl ⟨by rfl, ?_⟩) hHeld ?_ ?_
                     rotate_left
                     · rintro w' ⟨s0, s1, s2, s3⟩
                       go_simp
                       with_reducible rfl
                     rotate_left
                     · simp only [Act.put, List.setIfInBounds_toArray, List.set_cons_zero, List.set_cons_succ, bT, b_]
                       rfl
                     refine fG (i := 11) (N := some 44) (v := ?_) (a' := ?_) #[true, true, true, true, true, true, true, true, true, true, true, true, false] rfl rfl (dM jh.out (by kernel_rfl)) (fun _ _ _ h => h) (Or.inl ⟨by rfl, ?_⟩) ?_ ?_
                     rotate_left
                     · intro w'
                       go_simp
                       with_reducible rfl
                     rotate_left
                     · simp only [Act.put, List.setIfInBounds_toArray, List.set_cons_zero, List.set_cons_succ, bT, b_]
                       rfl
                     refine XF (i := 12) (N := none) #[true, true, true, true, true, true, true, true, true, true, true, true, true] rfl rfl (mG jh.out (by kernel_rfl)) (by decide) (fun K hK => ?_)
                     refine OE (w1 := ?_) (by rfl) rfl ?_ ?_
                     rotate_left
                     · go_simp
                       rfl
                     refine hK.out _ _ ?_
                     clear hK K; refine Gt (xK jh.out (by kernel_rfl)) ?_
                     try go_wp2
                     go_roundg k2
                     case measure => have := HJ1.out; have := Dj.out; omega
                     case rel => exact ⟨(wrap64 (gB + 1)), (lW), (jT), (aaw), (.slice (some ⟨aa_, 0, none⟩) gV.length abq), (by first | rfl | (simp; done) | (simp [*]; done)), H', ⟨by have := HJ1.out; have := Dj.out; omega⟩, ⟨by (with_reducible repeat (first | apply Kd.dO | apply Kd.dN | apply Kd.eG)); exact acW.out⟩, ⟨by (with_reducible repeat (first | refine aA ?_ _ | refine aH ?_ | refine aC ?_ _)); refine iw ?_ (by have h_ := Kd.zI gY.out gy.out (by decide); intro e_; exact h_ (by rw [e_]; rfl)) _; (with_reducible repeat (first | refine aA ?_ _ | refine aH ?_ | refine aC ?_ _)); exact gy.out⟩, ⟨by (with_reducible repeat (first | refine aA ?_ _ | refine aH ?_ | refine aC ?_ _)); refine iw ?_ (by have h_ := Kd.zI gY.out jA.out (by decide); intro e_; exact h_ (by rw [e_]; rfl)) _; (with_reducible repeat (first | refine aA ?_ _ | refine aH ?_ | refine aC ?_ _)); exact jA.out⟩, ⟨by repeat (first | (with_reducible first | exact HB.out | apply ak | apply ah | apply au | refine aG ?_ aiz.out | refine aG ?_ sN.out | refine aG ?_ He.out) | exact HB.out)⟩⟩
                   · rw [if_neg c20] at H
                     exact absurd H (by simp)
                 · rw [if_neg c19] at H
                   exact absurd H (by simp)
               · replace c17 := Bool.eq_false_iff.mpr c17
                 subst c17
                 have H1 : (some (0, 0, ([] : List Int), 1)) = some (r1, r2, r3, r4) := by rw [if_neg (show ¬ (false = true) by decide)] at H; exact H
                 clear H; have H := H1; clear H1; simp only [Option.some.injEq, Prod.mk.injEq] at H; obtain ⟨rfl, rfl, rfl, rfl⟩ := H; have MX : 0 ≤ (gB : Int) := of_decide_eq_true (by first | (with_reducible assumption) | assumption); have MI : gB < (l0.length : Int) := of_decide_eq_true (by first | (with_reducible assumption) | assumption); obtain ⟨UK, Zk, uH⟩ := Kd.gZ HR0.out gB MX MI
                 cases Zk
                 replace uH := (HB.out.cell (World.block_lt_of_cell? w _ uH)).trans uH; replace MX := eq_true MX; replace MI := eq_true MI
                 go_wp2_with (first | ((with_reducible refine aJ (f := 51) rfl ?_); refine bF (some 29) rfl rfl Tryz.func51 (by kernel_rfl) rfl #[.int .i64 (rd l0 gB)] rfl (by (try simp only [List.map_toArray, List.map_cons, List.map_nil]); first | done | rfl | (simp only [List.length_drop, List.length_take]; rfl)) ?_; (with_reducible refine (dQ.calls (rd l0 gB) false _ Jw.out).mono ?_); rintro e w' ⟨rfl, ⟨nd, rfl⟩⟩; refine ⟨_, rfl, ?_⟩; (try (rw [uK wr]; generalize DW : World.drewN wr _ = wr; have bJ : aj (Kd.R (Kd.int .i64) 22 wr w.heap.size (fun _ => True) u200002 gV) := ⟨by rw [← DW]; exact (by (with_reducible repeat (first | apply Kd.dO | apply Kd.dN | apply Kd.eG)); exact gY.out)⟩; have dP : aj (wr.heap[jZ]? = some (.cells #[.int .i64 lW, .int .i64 jT, .slice none 0 0] 29 (0, 0))) := ⟨by rw [← DW]; exact (by (with_reducible repeat (first | refine aA ?_ _ | refine aH ?_ | refine aC ?_ _)); exact gy.out)⟩; have dY : aj (wr.heap[oC]? = some (.cells #[.int .i64 t194, .int .i64 t195, u200002] 29 (0, 0))) := ⟨by rw [← DW]; exact (by (with_reducible repeat (first | refine aA ?_ _ | refine aH ?_ | refine aC ?_ _)); exact jA.out)⟩; have fH : aj (Below w.heap.size w wr) := ⟨by rw [← DW]; exact (by repeat (first | (with_reducible first | exact HB.out | apply ak | apply ah | apply au | refine aG ?_ sN.out | refine aG ?_ He.out) | exact HB.out))⟩; clear gY gy jA HB DW; have gY := bJ; have gy := dP; have jA := dY; have HB := fH; clear bJ dP dY fH)); have ai3 := qE.out; have aiV := Be.out; have Pq : wr.cell? ⟨jZ, 0, none⟩ = some (.int .i64 lW) := (az gy.out 0).trans rfl; have Po : wr.cell? ⟨jZ, 1, none⟩ = some (.int .i64 jT) := (az gy.out 1).trans rfl; have Pn : wr.cell? ⟨jZ, 2, none⟩ = some (.slice none 0 0) := (az gy.out 2).trans rfl; have OZ := ay gy.out 0; have OY := ay gy.out 1; have OW := ay gy.out 2))
                 refine bodyPost_ret (ni rfl _ _ jZ 29 #[.int .i64 0, .int .i64 0, .slice none 0 0] (0, 0) _ rfl (by (with_reducible repeat (first | refine aA ?_ _ | refine aH ?_ | refine aC ?_ _)); refine bM (cs := #[.int .i64 0, .int .i64 0, .slice none 0 0]) ?_ 2 _ rfl; (with_reducible repeat (first | refine aA ?_ _ | refine aH ?_ | refine aC ?_ _)); refine bM (cs := #[.int .i64 0, .int .i64 jT, .slice none 0 0]) ?_ 1 _ rfl; (with_reducible repeat (first | refine aA ?_ _ | refine aH ?_ | refine aC ?_ _)); refine bM (cs := #[.int .i64 lW, .int .i64 jT, .slice none 0 0]) ?_ 0 _ rfl; (with_reducible repeat (first | refine aA ?_ _ | refine aH ?_ | refine aC ?_ _)); exact gy.out) Tryz.underlying29 rfl (by kernel_rfl)) rfl ?_
                 exact ⟨_, by first | rfl | (simp [aQ, aN] <;> rfl) | (simp [*, aQ, aN] <;> rfl), by first | exact Kd.t_ _ _ _ _ _ | exact Kd.zL _ _ _ _ _ | exact Kd.zF _ _ _ _ _ | exact Kd.zK _ _ _ _ _ | exact Kd.zH _ _ _ _ _, by repeat (first | (with_reducible first | exact HB.out | apply ak | apply ah | apply au | refine aG ?_ sN.out | refine aG ?_ He.out) | exact HB.out)⟩
             · rw [if_neg c15] at H
               exact absurd H (by simp)
           · rw [if_neg c14] at H
             exact absurd H (by simp)
         · rw [if_neg c13] at H
           have uZ : decide (gB < (l0.length : Int)) = false := decide_eq_false c13; clear c13; simp only [Option.some.injEq, Prod.mk.injEq] at H; obtain ⟨rfl, rfl, rfl, rfl⟩ := H; have ai2 := Be.out; have aiU := qE.out; have Wp : wr.cell? ⟨oC, 0, none⟩ = some (.int .i64 t194) := (az jA.out 0).trans rfl; have Wn : wr.cell? ⟨oC, 1, none⟩ = some (.int .i64 t195) := (az jA.out 1).trans rfl; have Wl : wr.cell? ⟨oC, 2, none⟩ = some (u200002) := (az jA.out 2).trans rfl; have VQ := ay jA.out 0; have VP := ay jA.out 1; have VO := ay jA.out 2; have ae8 : wr.cell? ⟨jZ, 0, none⟩ = some (.int .i64 lW) := (az gy.out 0).trans rfl; have ae7 : wr.cell? ⟨jZ, 1, none⟩ = some (.int .i64 jT) := (az gy.out 1).trans rfl; have ae6 : wr.cell? ⟨jZ, 2, none⟩ = some (.slice none 0 0) := (az gy.out 2).trans rfl; have aes := ay gy.out 0; have aer := ay gy.out 1; have aep := ay gy.out 2; obtain ⟨adm, abn, aho⟩ := Kd.je gY.out; subst aho; go_wp2
           refine bodyPost_ret (ni rfl _ _ jZ 29 #[.int .i64 t194, .int .i64 t195, .slice adm gV.length abn] (0, 0) _ rfl (by (with_reducible repeat (first | refine aA ?_ _ | refine aH ?_ | refine aC ?_ _)); refine bM (cs := #[.int .i64 t194, .int .i64 t195, .slice none 0 0]) ?_ 2 _ rfl; (with_reducible repeat (first | refine aA ?_ _ | refine aH ?_ | refine aC ?_ _)); refine bM (cs := #[.int .i64 t194, .int .i64 jT, .slice none 0 0]) ?_ 1 _ rfl; (with_reducible repeat (first | refine aA ?_ _ | refine aH ?_ | refine aC ?_ _)); refine bM (cs := #[.int .i64 lW, .int .i64 jT, .slice none 0 0]) ?_ 0 _ rfl; (with_reducible repeat (first | refine aA ?_ _ | refine aH ?_ | refine aC ?_ _)); exact gy.out) Tryz.underlying29 rfl (by kernel_rfl)) rfl ?_
           exact ⟨_, by first | rfl | (simp [aQ, aN] <;> rfl) | (simp [*, aQ, aN] <;> rfl), by (with_reducible repeat (first | apply Kd.dO | apply Kd.dN | apply Kd.eG)); exact Kd.jc (Kd.gI (p := ⟨jZ, 2, none⟩) (Kd.gI (p := ⟨jZ, 1, none⟩) (Kd.gI (p := ⟨jZ, 0, none⟩) (Kd.l_ gY.out gy.out (by decide)) (fun _ hk => hk.2) (.int .i64 t194)) (fun _ hk => hk.2) (.int .i64 t195)) (fun _ hk => hk.2) (.slice adm gV.length abn)) (fun _ hk => trivial), by repeat (first | (with_reducible first | exact HB.out | apply ak | apply ah | apply au | refine aG ?_ sN.out | refine aG ?_ He.out) | exact HB.out)⟩
end Go.Proofs.YtcfobekkchhbbaaGreat.PQ

