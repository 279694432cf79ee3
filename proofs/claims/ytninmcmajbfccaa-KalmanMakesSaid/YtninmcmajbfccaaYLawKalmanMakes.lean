/- KalmanMakes: a new track, which tracks are right, what is good of a matrix, and whether two are the same, are as the document says; for every input. -/
import Derived.Test.YtninmcmajbfccaaY13
namespace Go.Proofs.Ytninmcmajbfccaa.kalmanMakes
open Go.ChangeShapes Go.WideShapes Go.ChangeAt Go.RowKit
set_option linter.unusedVariables false
theorem own : ownKnob Try.prog.godebug = none := by kernel_rfl
set_option maxRecDepth 100000 in
theorem lifted (os : Os) (started : os.Started) (H : Type) (enc : TypeId × Value → H) :
    ReturnsInHanded {} Try.checked os 6 .any (Rows.kalmanMakesSpec.pre6 enc Try.prog Try.f6 Rows.kalmanMakesRow.domain false) (Rows.kalmanMakesSpec.post enc Try.prog Try.f6 false true false false) := by
  refine returnsInHanded_of_change_sized (C := Try.checked) own started (by kernel_rfl) Try.func6
    (ChangeSpec.witness6 (enc := enc) (C := Try.checked) false ⟨#[], #[.agg #[.slice none 0 0, .slice none 0 0, .int .i64 0, .int .i64 0, .slice none 0 0, .int .i64 0, .int .i64 0, .slice none 0 0, .int .i64 0, .int .i64 0, .slice none 0 0, .int .i64 0, .int .i64 0, .slice none 0 0]], []⟩ 8 (by kernel_rfl) (by kernel_rfl) (by kernel_rfl) (by kernel_rfl)) ?_
  intro W base args ds gs before hval0 hW hcnd hsz0 _
  have hval : ∀ (j : Nat) t v, Try.f6.params[j]? = some t → args[j]? = some v → Value.okWide Try.prog W .any base t v := hval0
  have hW' := hW
  obtain ⟨p, q, hA0, hV, rfl, hfz, hnd⟩ := hW
  have hA : DataW.TrodAll enc Try.prog W 0 (fun _ => true) true Try.f6.params.toList args.toList ds p := hA0
  have aia : ∀ x ∈ p, x.block < W.heap.size := hA.lt
  rw [Try.params6] at hA hval
  obtain ⟨v0, vs0, d0, ds0, p0, q0, hargs, rfl, rfl, h0, r0⟩ := trodAll_cons hA
  obtain ⟨rfl, rfl, rfl⟩ := trodAll_nil r0
  obtain rfl : args = #[v0] := by cases args; simp_all
  obtain ⟨rfl, rfl⟩ := trodVars_none hV
  have hw : ∀ k ∈ d0.weights Try.prog 45, k ≤ reachBytes := fun k hk => by simpa using List.all_eq_true.1 hsz0 _ (DataW.weights_mem_each (j := 0) (t := 45) rfl rfl k hk)
  obtain ⟨cs0, rfl, hsz⟩ := okWide_struct Try.underlying45 (hval 0 45 v0 rfl rfl)
  obtain ⟨fuel, hf⟩ := id h0
  obtain ⟨Ax, cx, lx, Av, cv, lv, r, c, A, cp, l, r', c', A', cp', l', ur, uc, B, up, u, ur', BU, B', up', u', e0, ⟨xa, xb⟩, ⟨va, vb⟩, ⟨ha, hb⟩, ⟨ha', hb'⟩, ⟨ua, ub⟩, ⟨ua', ub'⟩, y1, y2, y3, y4, y5, y6⟩ := KK.Ce hf hw
  obtain rfl : cs0 = #[.slice Ax lx.length cx, .slice Av lv.length cv, KK.I r, KK.I c, .slice A l.length cp, KK.I r', KK.I c', .slice A' l'.length cp', KK.I ur, KK.I uc, .slice B u.length up, KK.I ur', KK.I BU, .slice B' u'.length up'] := by cases cs0; simpa [Value.cells] using e0
  clear hA0 hval0 hsz0
  refine (PR.NS Ax cx lx Av cv lv r c A cp l r' c' A' cp' l' ur uc B up u ur' BU B' up' u' W xb xa vb va hb ha hb' ha' ub ua ub' ua' y1 y2 y3 y4 y5 y6).mono fun e W' ⟨he, bel⟩ => ?_
  subst he
  exact ⟨_, rfl, _, _, _, [], _, [], hW', trodAll_mk1 (shut_bool Try.underlying4 _), (trodAll_cons_mk (Below.trod KK.laidOut (by kernel_rfl) (of_decide_eq_true (by kernel_rfl)) h0 bel (fun x hx => aia x (by simp [hx]))) trodAll_mk0), rfl, bel.frame _, fun h => by cases h⟩
theorem over : Rows.kalmanMakesRow.holds Try.pinned (OpenSpec.ofChange Rows.kalmanMakesSpec) :=
  OpenClaim.holds_of_wide 6 Try.f6 rfl rfl rfl rfl rfl rfl rfl ⟨rfl, rfl, rfl, rfl, rfl⟩ rfl rfl rfl rfl rfl (by kernel_rfl) Try.func6 (by kernel_rfl)
    (of_decide_eq_true (by kernel_rfl)) (by unfold Func.isWrapper; first | (rw [if_pos (by decide +kernel)]; kernel_rfl) | (rw [if_neg (by decide +kernel)]; exact ⟨rfl, rfl⟩))
    (fun os started H enc _ => lifted os started H enc)
theorem proved : Rows.KalmanMakesSaid := over
#print axioms proved
end Go.Proofs.Ytninmcmajbfccaa.kalmanMakes
namespace Go.Proofs.Ytninmcmajbfccaa
/-- The row, under a short name, for the claim. -/
theorem kalmanMakes_holds : Rows.KalmanMakesSaid := kalmanMakes.proved
end Go.Proofs.Ytninmcmajbfccaa
