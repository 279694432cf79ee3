/- QuatUnits: where all numbers are at most 512, and one is at least 1/4, the norm of one of the norm 1 is 1, but for 256 steps; whatever it is, it is in bounds; for every quaternion. -/
import Derived.Test.YtmjncjaalleblaaQ7
import Derived.Test.YtmjncjaalleblaaQO
namespace Go.Proofs.Ytmjncjaalleblaa.quatUnits
open Go.ChangeShapes Go.WideShapes Go.ChangeAt Go.RowKit
set_option linter.unusedVariables false
theorem own : ownKnob Try.prog.godebug = none := by kernel_rfl
theorem c24 : Try.prog.cellsOf 24 = 4 := by kernel_rfl
theorem c22 : Try.prog.cellsOf 22 = 1 := by kernel_rfl
set_option maxRecDepth 100000 in
theorem lifted (os : Os) (started : os.Started) (H : Type) (enc : TypeId × Value → H) :
    ReturnsInHanded {} Try.checked os 7 .any (Rows.quatUnitsSpec.pre6 enc Try.prog Try.f7 Rows.quatUnitsRow.domain false) (Rows.quatUnitsSpec.post enc Try.prog Try.f7 false true false false) := by
  refine returnsInHanded_of_change_sized (C := Try.checked) own started (by kernel_rfl) Try.func7
    (ChangeSpec.witness6 (enc := enc) (C := Try.checked) false ⟨#[], #[.agg #[.int .i64 0, .int .i64 0, .int .i64 0, .int .i64 0]], []⟩ 8 (by kernel_rfl) (by kernel_rfl) (by kernel_rfl) (by kernel_rfl)) ?_
  intro W base args ds gs before hval0 hW hcnd hsz0 _
  have hval : ∀ (j : Nat) t v, Try.f7.params[j]? = some t → args[j]? = some v → Value.okWide Try.prog W .any base t v := hval0
  have hW' := hW
  obtain ⟨p, q, hA0, hV, rfl, hfz, hnd⟩ := hW
  have hA : DataW.TrodAll enc Try.prog W 0 (fun _ => true) true Try.f7.params.toList args.toList ds p := hA0
  rw [Try.params7] at hA hval
  obtain ⟨v0, vs0, d0, ds0, p0, q0, hargs, rfl, rfl, h0, r0⟩ := trodAll_cons hA
  obtain ⟨rfl, rfl, rfl⟩ := trodAll_nil r0
  obtain rfl : args = #[v0] := by cases args; simp_all
  obtain ⟨rfl, rfl⟩ := trodVars_none hV
  obtain ⟨a, b, c, d, rfl, rfl, _, e0⟩ := PQ.open4 Try.underlying24 Try.underlying22 c22 c24 (hval 0 24 v0 rfl rfl) h0
  clear hA0 hval0 hsz0
  refine (PQ.units_walk (PQ.at4 a b c d) W).mono fun e W' ⟨he, bel⟩ => ?_
  subst he
  exact ⟨_, rfl, _, _, _, [], _, [], hW', trodAll_mk1 (shut_bool Try.underlying4 _), (trodAll_cons_mk (e0 _ _ _) trodAll_mk0), rfl, bel.frame _, fun h => by cases h⟩
theorem over : Rows.quatUnitsRow.holds Try.pinned (OpenSpec.ofChange Rows.quatUnitsSpec) :=
  OpenClaim.holds_of_wide 7 Try.f7 rfl rfl rfl rfl rfl rfl rfl ⟨rfl, rfl, rfl, rfl, rfl⟩ rfl rfl rfl rfl rfl (by kernel_rfl) Try.func7 (by kernel_rfl)
    (of_decide_eq_true (by kernel_rfl)) (by unfold Func.isWrapper; first | (rw [if_pos (by decide +kernel)]; kernel_rfl) | (rw [if_neg (by decide +kernel)]; exact ⟨rfl, rfl⟩))
    (fun os started H enc _ => lifted os started H enc)
theorem proved : Rows.QuatUnitsSaid := over
#print axioms proved
end Go.Proofs.Ytmjncjaalleblaa.quatUnits
namespace Go.Proofs.Ytmjncjaalleblaa
/-- The row, under a short name, for the claim. -/
theorem quatUnits_holds : Rows.QuatUnitsSaid := quatUnits.proved
end Go.Proofs.Ytmjncjaalleblaa
