/- QuatSmalls: a small turn has the norm 1, but for 256 steps, where its numbers are at most 512; by 0 it is none; for every three numbers and one more. -/
import Derived.Test.YtmjncjaalleblaaQ8
import Derived.Test.YtmjncjaalleblaaQO
namespace Go.Proofs.Ytmjncjaalleblaa.quatSmalls
open Go.ChangeShapes Go.WideShapes Go.ChangeAt Go.RowKit
set_option linter.unusedVariables false
theorem own : ownKnob Try.prog.godebug = none := by kernel_rfl
theorem c24 : Try.prog.cellsOf 24 = 4 := by kernel_rfl
theorem c26 : Try.prog.cellsOf 26 = 3 := by kernel_rfl
theorem c22 : Try.prog.cellsOf 22 = 1 := by kernel_rfl
set_option maxRecDepth 100000 in
theorem lifted (os : Os) (started : os.Started) (H : Type) (enc : TypeId × Value → H) :
    ReturnsInHanded {} Try.checked os 8 .any (Rows.quatSmallsSpec.pre6 enc Try.prog Try.f8 Rows.quatSmallsRow.domain false) (Rows.quatSmallsSpec.post enc Try.prog Try.f8 false true false false) := by
  refine returnsInHanded_of_change_sized (C := Try.checked) own started (by kernel_rfl) Try.func8
    (ChangeSpec.witness6 (enc := enc) (C := Try.checked) false ⟨#[], #[.agg #[.int .i64 0, .int .i64 0, .int .i64 0], .int .i64 0], []⟩ 8 (by kernel_rfl) (by kernel_rfl) (by kernel_rfl) (by kernel_rfl)) ?_
  intro W base args ds gs before hval0 hW hcnd hsz0 _
  have hval : ∀ (j : Nat) t v, Try.f8.params[j]? = some t → args[j]? = some v → Value.okWide Try.prog W .any base t v := hval0
  have hW' := hW
  obtain ⟨p, q, hA0, hV, rfl, hfz, hnd⟩ := hW
  have hA : DataW.TrodAll enc Try.prog W 0 (fun _ => true) true Try.f8.params.toList args.toList ds p := hA0
  rw [Try.params8] at hA hval
  obtain ⟨v0, vs0, d0, ds0, p0, q0, hargs, rfl, rfl, h0, r0⟩ := trodAll_cons hA
  obtain ⟨v1, vs1, d1, ds1, p1, q1, rfl, rfl, rfl, h1, r1⟩ := trodAll_cons r0
  obtain ⟨rfl, rfl, rfl⟩ := trodAll_nil r1
  obtain rfl : args = #[v0, v1] := by cases args; simp_all
  obtain ⟨rfl, rfl⟩ := trodVars_none hV
  obtain ⟨x, y, z, rfl, rfl, _, e0⟩ := PQ.open3 Try.underlying26 Try.underlying22 c22 c26 (hval 0 26 v0 rfl rfl) h0
  obtain ⟨b, rfl, rfl, rfl, wf1⟩ := open_int Try.underlying22 (hval 1 22 v1 rfl rfl) h1
  clear hA0 hval0 hsz0
  refine (PQ.smalls_walk (PQ.at3 x y z) b W).mono fun e W' ⟨he, bel⟩ => ?_
  subst he
  exact ⟨_, rfl, _, _, _, [], _, [], hW', trodAll_mk1 (shut_bool Try.underlying4 _), (trodAll_cons_mk (e0 _ _ _) (trodAll_cons_mk (shut_int Try.underlying22 wf1) trodAll_mk0)), rfl, bel.frame _, fun h => by cases h⟩
theorem over : Rows.quatSmallsRow.holds Try.pinned (OpenSpec.ofChange Rows.quatSmallsSpec) :=
  OpenClaim.holds_of_wide 8 Try.f8 rfl rfl rfl rfl rfl rfl rfl ⟨rfl, rfl, rfl, rfl, rfl⟩ rfl rfl rfl rfl rfl (by kernel_rfl) Try.func8 (by kernel_rfl)
    (of_decide_eq_true (by kernel_rfl)) (by unfold Func.isWrapper; first | (rw [if_pos (by decide +kernel)]; kernel_rfl) | (rw [if_neg (by decide +kernel)]; exact ⟨rfl, rfl⟩))
    (fun os started H enc _ => lifted os started H enc)
theorem proved : Rows.QuatSmallsSaid := over
#print axioms proved
end Go.Proofs.Ytmjncjaalleblaa.quatSmalls
namespace Go.Proofs.Ytmjncjaalleblaa
/-- The row, under a short name, for the claim. -/
theorem quatSmalls_holds : Rows.QuatSmallsSaid := quatSmalls.proved
end Go.Proofs.Ytmjncjaalleblaa
