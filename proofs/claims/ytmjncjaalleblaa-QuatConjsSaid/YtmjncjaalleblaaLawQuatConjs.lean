/- QuatConjs: times itself turned round, a quaternion of whole numbers is its norm; a product turned round is the turned ones' product, the other way round; for every input. -/
import Derived.Test.YtmjncjaalleblaaQY
import Derived.Test.YtmjncjaalleblaaQO
namespace Go.Proofs.Ytmjncjaalleblaa.quatConjs
open Go.ChangeShapes Go.WideShapes Go.ChangeAt Go.RowKit
set_option linter.unusedVariables false
theorem own : ownKnob Try.prog.godebug = none := by kernel_rfl
theorem c36 : Try.prog.cellsOf 36 = 4 := by kernel_rfl
theorem c35 : Try.prog.cellsOf 35 = 1 := by kernel_rfl
theorem bounds {n : Int} (h : (Lit.int .i8 n).wf = true) : -128 ≤ n ∧ n ≤ 127 := by
  have h' : (decide (IntKind.i8.min ≤ n) && decide (n ≤ IntKind.i8.max)) = true := h
  have e0 : IntKind.i8.min = -128 := by decide
  have e1 : IntKind.i8.max = 127 := by decide
  rw [e0, e1] at h'
  simpa using h'
theorem all4 {a b c d : Int} (h : (Lit.int .i8 a).wf = true ∧ (Lit.int .i8 b).wf = true ∧ (Lit.int .i8 c).wf = true ∧ (Lit.int .i8 d).wf = true) : ∀ k, k < 4 → -128 ≤ PQ.at4 a b c d k ∧ PQ.at4 a b c d k ≤ 127 := by
  intro k hk
  obtain rfl | rfl | rfl | rfl : k = 0 ∨ k = 1 ∨ k = 2 ∨ k = 3 := by omega
  · exact bounds h.1
  · exact bounds h.2.1
  · exact bounds h.2.2.1
  · exact bounds h.2.2.2
set_option maxRecDepth 100000 in
theorem lifted (os : Os) (started : os.Started) (H : Type) (enc : TypeId × Value → H) :
    ReturnsInHanded {} Try.checked os 5 .any (Rows.quatConjsSpec.pre6 enc Try.prog Try.f5 Rows.quatConjsRow.domain false) (Rows.quatConjsSpec.post enc Try.prog Try.f5 false true false false) := by
  refine returnsInHanded_of_change_sized (C := Try.checked) own started (by kernel_rfl) Try.func5
    (ChangeSpec.witness6 (enc := enc) (C := Try.checked) false ⟨#[], #[.agg #[.int .i8 0, .int .i8 0, .int .i8 0, .int .i8 0], .agg #[.int .i8 0, .int .i8 0, .int .i8 0, .int .i8 0]], []⟩ 8 (by kernel_rfl) (by kernel_rfl) (by kernel_rfl) (by kernel_rfl)) ?_
  intro W base args ds gs before hval0 hW hcnd hsz0 _
  have hval : ∀ (j : Nat) t v, Try.f5.params[j]? = some t → args[j]? = some v → Value.okWide Try.prog W .any base t v := hval0
  have hW' := hW
  obtain ⟨p, q, hA0, hV, rfl, hfz, hnd⟩ := hW
  have hA : DataW.TrodAll enc Try.prog W 0 (fun _ => true) true Try.f5.params.toList args.toList ds p := hA0
  rw [Try.params5] at hA hval
  obtain ⟨v0, vs0, d0, ds0, p0, q0, hargs, rfl, rfl, h0, r0⟩ := trodAll_cons hA
  obtain ⟨v1, vs1, d1, ds1, p1, q1, rfl, rfl, rfl, h1, r1⟩ := trodAll_cons r0
  obtain ⟨rfl, rfl, rfl⟩ := trodAll_nil r1
  obtain rfl : args = #[v0, v1] := by cases args; simp_all
  obtain ⟨rfl, rfl⟩ := trodVars_none hV
  obtain ⟨a, b, c, d, rfl, rfl, w0, e0⟩ := PQ.open4 Try.underlying36 Try.underlying35 c35 c36 (hval 0 36 v0 rfl rfl) h0
  obtain ⟨f, g, h, i, rfl, rfl, w1, e1⟩ := PQ.open4 Try.underlying36 Try.underlying35 c35 c36 (hval 1 36 v1 rfl rfl) h1
  clear hA0 hval0 hsz0
  refine (PQ.conjs_walk (PQ.at4 a b c d) (PQ.at4 f g h i) (all4 w0) (all4 w1) W).mono fun e W' ⟨he, bel⟩ => ?_
  subst he
  exact ⟨_, rfl, _, _, _, [], _, [], hW', trodAll_mk1 (shut_bool Try.underlying4 _), (trodAll_cons_mk (e0 _ _ _) (trodAll_cons_mk (e1 _ _ _) trodAll_mk0)), rfl, bel.frame _, fun h => by cases h⟩
theorem over : Rows.quatConjsRow.holds Try.pinned (OpenSpec.ofChange Rows.quatConjsSpec) :=
  OpenClaim.holds_of_wide 5 Try.f5 rfl rfl rfl rfl rfl rfl rfl ⟨rfl, rfl, rfl, rfl, rfl⟩ rfl rfl rfl rfl rfl (by kernel_rfl) Try.func5 (by kernel_rfl)
    (of_decide_eq_true (by kernel_rfl)) (by unfold Func.isWrapper; first | (rw [if_pos (by decide +kernel)]; kernel_rfl) | (rw [if_neg (by decide +kernel)]; exact ⟨rfl, rfl⟩))
    (fun os started H enc _ => lifted os started H enc)
theorem proved : Rows.QuatConjsSaid := over
#print axioms proved
end Go.Proofs.Ytmjncjaalleblaa.quatConjs
namespace Go.Proofs.Ytmjncjaalleblaa
/-- The row, under a short name, for the claim. -/
theorem quatConjs_holds : Rows.QuatConjsSaid := quatConjs.proved
end Go.Proofs.Ytmjncjaalleblaa
