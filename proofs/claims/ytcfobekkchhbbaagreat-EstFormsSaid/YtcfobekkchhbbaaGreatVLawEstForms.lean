/- EstForms: which settings may be, which estimators are right, the beginning, and whether two are the same, are as the document says; for every input. -/
import Derived.Test.YtcfobekkchhbbaaGreatV15
namespace Go.Proofs.YtcfobekkchhbbaaGreat.estForms
open Go.ChangeShapes Go.WideShapes Go.ChangeAt Go.RowKit
set_option linter.unusedVariables false
set_option linter.unusedSimpArgs false
theorem own : ownKnob Tryz.prog.godebug = none := by kernel_rfl
set_option maxRecDepth 100000 in
theorem lifted (os : Os) (started : os.Started) (H : Type) (enc : TypeId × Value → H) :
    ReturnsInHanded {} Tryz.checked os 3 .any (Rows.estFormsSpec.pre6 enc Tryz.prog Tryz.f3 Rows.estFormsRow.domain false) (Rows.estFormsSpec.post enc Tryz.prog Tryz.f3 false true false false) := by
  refine returnsInHanded_of_change_sized (C := Tryz.checked) own started (by kernel_rfl) Tryz.func3
    (ChangeSpec.witness6 (enc := enc) (C := Tryz.checked) false ⟨#[], #[.agg #[.int .i64 0, .int .i64 0, .int .i64 0, .int .i64 0, .int .i64 0, .int .i64 0], .agg #[.int .i64 0, .int .i64 0, .int .i64 0, .int .i64 0, .int .i64 0, .int .i64 0, .slice none 0 0, .int .i64 0, .int .i64 0, .slice none 0 0, .int .i64 0, .int .i64 0, .slice none 0 0, .int .i64 0, .int .i64 0, .slice none 0 0, .int .i64 0, .int .i64 0, .slice none 0 0, .int .i64 0, .int .i64 0, .slice none 0 0, .int .i64 0, .int .i64 0, .int .i64 0, .int .i64 0, .int .i64 0, .int .i64 0, .bool false], .agg #[.int .i64 0, .int .i64 0, .int .i64 0, .int .i64 0, .int .i64 0, .int .i64 0, .slice none 0 0, .int .i64 0, .int .i64 0, .slice none 0 0, .int .i64 0, .int .i64 0, .slice none 0 0, .int .i64 0, .int .i64 0, .slice none 0 0, .int .i64 0, .int .i64 0, .slice none 0 0, .int .i64 0, .int .i64 0, .slice none 0 0, .int .i64 0, .int .i64 0, .int .i64 0, .int .i64 0, .int .i64 0, .int .i64 0, .bool false]], []⟩ 8 (by kernel_rfl) (by kernel_rfl) (by kernel_rfl) (by kernel_rfl)) ?_
  intro W base args ds gs before hval0 hW hcnd hsz _; have hval : ∀ (j : Nat) t v, Tryz.f3.params[j]? = some t → args[j]? = some v → Value.okWide Tryz.prog W .any base t v := hval0; have hW' := hW; obtain ⟨p, q, hA0, hV, rfl, hfz, hnd⟩ := hW; have hA : DataW.TrodAll enc Tryz.prog W 0 (fun _ => true) true Tryz.f3.params.toList args.toList ds p := hA0; have YZ : ∀ x ∈ p, x.block < W.heap.size := hA.lt; rw [Tryz.params3] at hA hval; obtain ⟨v0, vs0, d0, ds0, p0, q0, hargs, rfl, rfl, h0, r0⟩ := trodAll_cons hA; obtain ⟨v1, vs1, d1, ds1, p1, q1, rfl, rfl, rfl, h1, r1⟩ := trodAll_cons r0; obtain ⟨v2, vs2, d2, ds2, p2, q2, rfl, rfl, rfl, h2, r2⟩ := trodAll_cons r1; obtain ⟨rfl, rfl, rfl⟩ := trodAll_nil r2
  obtain rfl : args = #[v0, v1, v2] := by cases args; simp_all
  obtain ⟨rfl, rfl⟩ := trodVars_none hV; obtain ⟨cs0, rfl, hsz0⟩ := okWide_struct Tryz.underlying24 (hval 0 24 v0 rfl rfl); obtain ⟨fuel0, hf0⟩ := id h0; obtain ⟨c, e0⟩ := EE.QI hf0
  obtain rfl : cs0 = c.row := by cases cs0; simpa [Value.cells] using e0
  obtain ⟨cs1, rfl, hsz1⟩ := okWide_struct Tryz.underlying35 (hval 1 35 v1 rfl rfl); obtain ⟨fuel1, hf1⟩ := id h1; obtain ⟨e, e1, hr⟩ := EE.JU hf1
  obtain rfl : cs1 = e.row := by cases cs1; simpa [Value.cells] using e1
  obtain ⟨cs2, rfl, hsz2⟩ := okWide_struct Tryz.underlying35 (hval 2 35 v2 rfl rfl); obtain ⟨fuel2, hf2⟩ := id h2; obtain ⟨f, e2, hf⟩ := EE.JU hf2
  obtain rfl : cs2 = f.row := by cases cs2; simpa [Value.cells] using e2
  have hw1 : ∀ k ∈ d1.weights Tryz.prog 35, k ≤ reachBytes := fun k hk => by simpa using List.all_eq_true.1 hsz _ (DataW.weights_mem_each (j := 1) (t := 35) rfl rfl k hk)
  have hz1 := EE.JI (e := e) hf1 hw1
  have hw2 : ∀ k ∈ d2.weights Tryz.prog 35, k ≤ reachBytes := fun k hk => by simpa using List.all_eq_true.1 hsz _ (DataW.weights_mem_each (j := 2) (t := 35) rfl rfl k hk)
  have hz2 := EE.JI (e := f) hf2 hw2; clear hA0 hval0; refine (EE.NI c e f W hr hf hz1 hz2).mono fun x W' ⟨he, bel⟩ => ?_
  subst he; exact ⟨_, rfl, _, _, _, [], _, [], hW', trodAll_mk1 (shut_bool Tryz.underlying4 _), (trodAll_cons_mk (Below.trod KK.laidOut (by kernel_rfl) (of_decide_eq_true (by kernel_rfl)) h0 bel (fun x hx => YZ x (by simp [hx]))) (trodAll_cons_mk (Below.trod KK.laidOut (by kernel_rfl) (of_decide_eq_true (by kernel_rfl)) h1 bel (fun x hx => YZ x (by simp [hx]))) (trodAll_cons_mk (Below.trod KK.laidOut (by kernel_rfl) (of_decide_eq_true (by kernel_rfl)) h2 bel (fun x hx => YZ x (by simp [hx]))) trodAll_mk0))), rfl, bel.frame _, fun h => by cases h⟩
theorem over : Rows.estFormsRow.holds Tryz.pinned (OpenSpec.ofChange Rows.estFormsSpec) :=
  OpenClaim.holds_of_wide 3 Tryz.f3 rfl rfl rfl rfl rfl rfl rfl ⟨rfl, rfl, rfl, rfl, rfl⟩ rfl rfl rfl rfl rfl (by kernel_rfl) Tryz.func3 (by kernel_rfl)
    (of_decide_eq_true (by kernel_rfl)) (by unfold Func.isWrapper; first | (rw [if_pos (by decide +kernel)]; kernel_rfl) | (rw [if_neg (by decide +kernel)]; exact ⟨rfl, rfl⟩))
    (fun os started H enc _ => lifted os started H enc)
theorem proved : Rows.EstFormsSaid := over
#print axioms proved
end Go.Proofs.YtcfobekkchhbbaaGreat.estForms
namespace Go.Proofs.YtcfobekkchhbbaaGreat
/-- The row, under a short name, for the claim. -/
theorem estForms_holds : Rows.EstFormsSaid := estForms.proved
end Go.Proofs.YtcfobekkchhbbaaGreat
