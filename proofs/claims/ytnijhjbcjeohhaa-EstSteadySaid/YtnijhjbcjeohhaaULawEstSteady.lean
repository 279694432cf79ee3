/- EstSteady: a step that is missing, of an estimator at its beginning, moves nothing: places and speeds are 0; it only grows less sure; for every input. -/
import Derived.Test.YtnijhjbcjeohhaaU13
namespace Go.Proofs.Ytnijhjbcjeohhaa.estSteady
open Go.ChangeShapes Go.WideShapes Go.ChangeAt Go.RowKit
set_option linter.unusedVariables false
set_option linter.unusedSimpArgs false
theorem own : ownKnob Try.prog.godebug = none := by kernel_rfl
set_option maxRecDepth 100000 in
theorem lifted (os : Os) (started : os.Started) (H : Type) (enc : TypeId × Value → H) :
    ReturnsInHanded {} Try.checked os 3 .any (Rows.estSteadySpec.pre6 enc Try.prog Try.f3 Rows.estSteadyRow.domain false) (Rows.estSteadySpec.post enc Try.prog Try.f3 false true false false) := by
  refine returnsInHanded_of_change_sized (C := Try.checked) own started (by kernel_rfl) Try.func3
    (ChangeSpec.witness6 (enc := enc) (C := Try.checked) false ⟨#[], #[.agg #[.int .i64 0, .int .i64 0, .int .i64 0, .int .i64 0, .int .i64 0, .int .i64 0], .int .u8 0], []⟩ 8 (by kernel_rfl) (by kernel_rfl) (by kernel_rfl) (by kernel_rfl)) ?_
  intro W base args ds gs before hval0 hW hcnd hsz0 _
  have hval : ∀ (j : Nat) t v, Try.f3.params[j]? = some t → args[j]? = some v → Value.okWide Try.prog W .any base t v := hval0
  have hW' := hW
  obtain ⟨p, q, hA0, hV, rfl, hfz, hnd⟩ := hW
  have hA : DataW.TrodAll enc Try.prog W 0 (fun _ => true) true Try.f3.params.toList args.toList ds p := hA0
  have J4 : ∀ x ∈ p, x.block < W.heap.size := hA.lt
  rw [Try.params3] at hA hval
  obtain ⟨v0, vs0, d0, ds0, p0, q0, hargs, rfl, rfl, h0, r0⟩ := trodAll_cons hA
  obtain ⟨v1, vs1, d1, ds1, p1, q1, rfl, rfl, rfl, h1, r1⟩ := trodAll_cons r0
  obtain ⟨rfl, rfl, rfl⟩ := trodAll_nil r1
  obtain rfl : args = #[v0, v1] := by cases args; simp_all
  obtain ⟨rfl, rfl⟩ := trodVars_none hV
  obtain ⟨cs0, rfl, hsz0⟩ := okWide_struct Try.underlying24 (hval 0 24 v0 rfl rfl)
  obtain ⟨fuel0, hf0⟩ := id h0
  obtain ⟨c, e0⟩ := EE.zJ hf0
  obtain rfl : cs0 = c.row := by cases cs0; simpa [Value.cells] using e0
  obtain ⟨m, rfl, rfl, rfl, w1⟩ := open_int Try.underlying5 (hval 1 5 v1 rfl rfl) h1
  have m1 : IntKind.u8.min = 0 := by decide
  have M1 : IntKind.u8.max = 255 := by decide
  have b1 : 0 ≤ m ∧ m ≤ 255 := by simp [Lit.wf, IntKind.wrap, IntKind.bits, IntKind.signed] at w1; omega
  clear hA0 hval0 hsz0
  refine (EE.Jz c m W b1.1 b1.2).mono fun x W' ⟨he, bel⟩ => ?_
  subst he
  exact ⟨_, rfl, _, _, _, [], _, [], hW', trodAll_mk1 (shut_bool Try.underlying4 _), (trodAll_cons_mk (Below.trod KK.laidOut (by kernel_rfl) (of_decide_eq_true (by kernel_rfl)) h0 bel (fun x hx => J4 x (by simp [hx]))) (trodAll_cons_mk (Below.trod KK.laidOut (by kernel_rfl) (of_decide_eq_true (by kernel_rfl)) h1 bel (fun x hx => by cases hx)) trodAll_mk0)), rfl, bel.frame _, fun h => by cases h⟩
theorem over : Rows.estSteadyRow.holds Try.pinned (OpenSpec.ofChange Rows.estSteadySpec) :=
  OpenClaim.holds_of_wide 3 Try.f3 rfl rfl rfl rfl rfl rfl rfl ⟨rfl, rfl, rfl, rfl, rfl⟩ rfl rfl rfl rfl rfl (by kernel_rfl) Try.func3 (by kernel_rfl)
    (of_decide_eq_true (by kernel_rfl)) (by unfold Func.isWrapper; first | (rw [if_pos (by decide +kernel)]; kernel_rfl) | (rw [if_neg (by decide +kernel)]; exact ⟨rfl, rfl⟩))
    (fun os started H enc _ => lifted os started H enc)
theorem proved : Rows.EstSteadySaid := over
#print axioms proved
end Go.Proofs.Ytnijhjbcjeohhaa.estSteady
namespace Go.Proofs.Ytnijhjbcjeohhaa
/-- The row, under a short name, for the claim. -/
theorem estSteady_holds : Rows.EstSteadySaid := estSteady.proved
end Go.Proofs.Ytnijhjbcjeohhaa
