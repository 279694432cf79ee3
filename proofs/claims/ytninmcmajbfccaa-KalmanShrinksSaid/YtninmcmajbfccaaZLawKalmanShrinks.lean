/- KalmanShrinks: what is measured of a number alone does not let it vary more, but for a rounding; it comes to lie between what it was and what was measured, but for a rounding; for every input. -/
import Derived.Test.YtninmcmajbfccaaZ18
import Derived.Test.YtninmcmajbfccaaZ20
namespace Go.Proofs.Ytninmcmajbfccaa.kalmanShrinks
open Go.ChangeShapes Go.WideShapes Go.ChangeAt Go.RowKit
set_option linter.unusedVariables false
theorem own : ownKnob Try.prog.godebug = none := by kernel_rfl
set_option maxRecDepth 100000 in
theorem lifted (os : Os) (started : os.Started) (H : Type) (enc : TypeId × Value → H) :
    ReturnsInHanded {} Try.checked os 4 .any (Rows.kalmanShrinksSpec.pre6 enc Try.prog Try.f4 Rows.kalmanShrinksRow.domain false) (Rows.kalmanShrinksSpec.post enc Try.prog Try.f4 false true false false) := by
  refine returnsInHanded_of_change_sized (C := Try.checked) own started (by kernel_rfl) Try.func4
    (ChangeSpec.witness6 (enc := enc) (C := Try.checked) false ⟨#[], #[.agg #[.int .u16 0, .int .u16 0, .int .u8 0, .int .u8 0]], []⟩ 8 (by kernel_rfl) (by kernel_rfl) (by kernel_rfl) (by kernel_rfl)) ?_
  intro W base args ds gs before hval0 hW hcnd hsz0 _
  have hval : ∀ (j : Nat) t v, Try.f4.params[j]? = some t → args[j]? = some v → Value.okWide Try.prog W .any base t v := hval0
  have hW' := hW
  obtain ⟨p, q, hA0, hV, rfl, hfz, hnd⟩ := hW
  have hA : DataW.TrodAll enc Try.prog W 0 (fun _ => true) true Try.f4.params.toList args.toList ds p := hA0
  have hltA : ∀ x ∈ p, x.block < W.heap.size := hA.lt
  rw [Try.params4] at hA hval
  obtain ⟨v0, vs0, d0, ds0, p0, q0, hargs, rfl, rfl, h0, r0⟩ := trodAll_cons hA
  obtain ⟨rfl, rfl, rfl⟩ := trodAll_nil r0
  obtain rfl : args = #[v0] := by cases args; simp_all
  obtain ⟨rfl, rfl⟩ := trodVars_none hV
  obtain ⟨cs0, rfl, hsz⟩ := okWide_struct Try.underlying37 (hval 0 37 v0 rfl rfl)
  obtain ⟨fuel, hf⟩ := id h0
  obtain ⟨x, z, v, r, e0, b1, b2, b3, b4, b5, b6, b7, b8⟩ := KK.open_small hf
  obtain rfl : cs0 = #[.int .u16 x, .int .u16 z, .int .u8 v, .int .u8 r] := by cases cs0; simpa [Value.cells] using e0
  clear hA0 hval0 hsz0
  refine (PR.shrinks_walk x z v r W b1 b2 b3 b4 b5 b6 b7 b8).mono fun e W' ⟨he, bel⟩ => ?_
  subst he
  exact ⟨_, rfl, _, _, _, [], _, [], hW', trodAll_mk1 (shut_bool Try.underlying4 _), (trodAll_cons_mk (Below.trod KK.laidOut (by kernel_rfl) (of_decide_eq_true (by kernel_rfl)) h0 bel (fun x hx => hltA x (by simp [hx]))) trodAll_mk0), rfl, bel.frame _, fun h => by cases h⟩
theorem over : Rows.kalmanShrinksRow.holds Try.pinned (OpenSpec.ofChange Rows.kalmanShrinksSpec) :=
  OpenClaim.holds_of_wide 4 Try.f4 rfl rfl rfl rfl rfl rfl rfl ⟨rfl, rfl, rfl, rfl, rfl⟩ rfl rfl rfl rfl rfl (by kernel_rfl) Try.func4 (by kernel_rfl)
    (of_decide_eq_true (by kernel_rfl)) (by unfold Func.isWrapper; first | (rw [if_pos (by decide +kernel)]; kernel_rfl) | (rw [if_neg (by decide +kernel)]; exact ⟨rfl, rfl⟩))
    (fun os started H enc _ => lifted os started H enc)
theorem proved : Rows.KalmanShrinksSaid := over
#print axioms proved
end Go.Proofs.Ytninmcmajbfccaa.kalmanShrinks
namespace Go.Proofs.Ytninmcmajbfccaa
/-- The row, under a short name, for the claim. -/
theorem kalmanShrinks_holds : Rows.KalmanShrinksSaid := kalmanShrinks.proved
end Go.Proofs.Ytninmcmajbfccaa
