/- MirrorTells: all that is done to a desk, and told of it, is as the document says; for every two desks, vector and two numbers. -/
import Derived.Test.YtbchepdaomhgeaaMTm
import Derived.Test.YtbchepdaomhgeaaMO
namespace Go.Proofs.Ytbchepdaomhgeaa.mirrorTells
open Go.ChangeShapes Go.WideShapes Go.ChangeAt Go.RowKit
set_option linter.unusedVariables false
theorem own : ownKnob Try.prog.godebug = none := by kernel_rfl
set_option maxRecDepth 100000 in
theorem lifted (os : Os) (started : os.Started) (H : Type) (enc : TypeId × Value → H) :
    ReturnsInHanded {} Try.checked os 9 .any (Rows.mirrorTellsSpec.pre6 enc Try.prog Try.f9 Rows.mirrorTellsRow.domain false) (Rows.mirrorTellsSpec.post enc Try.prog Try.f9 false true false false) := by
  refine returnsInHanded_of_change_sized (C := Try.checked) own started (by kernel_rfl) Try.func9
    (ChangeSpec.witness6 (enc := enc) (C := Try.checked) false ⟨#[], #[.agg #[.int .i64 0, .int .i64 0, .int .i64 0, .int .i64 0, .int .i64 0, .int .i64 0, .slice none 0 0, .int .i64 0, .int .i64 0, .int .i64 0, .int .i64 0, .int .i64 0, .int .i64 0, .slice none 0 0, .int .i64 0, .int .i64 0, .int .i64 0, .int .i64 0, .int .i64 0]], []⟩ 8 (by kernel_rfl) (by kernel_rfl) (by kernel_rfl) (by kernel_rfl)) ?_
  intro W base args ds gs before hval0 hW hcnd hsz0 _
  have hval : ∀ (j : Nat) t v, Try.f9.params[j]? = some t → args[j]? = some v → Value.okWide Try.prog W .any base t v := hval0
  have hW' := hW
  obtain ⟨p, q, hA0, hV, rfl, hfz, hnd⟩ := hW
  have hA : DataW.TrodAll enc Try.prog W 0 (fun _ => true) true Try.f9.params.toList args.toList ds p := hA0
  have hltA : ∀ x ∈ p, x.block < W.heap.size := hA.lt
  rw [Try.params9] at hA hval
  obtain ⟨v0, vs0, d0, ds0, p0, q0, hargs, rfl, rfl, h0, r0⟩ := trodAll_cons hA
  obtain ⟨rfl, rfl, rfl⟩ := trodAll_nil r0
  obtain rfl : args = #[v0] := by cases args; simp_all
  obtain ⟨rfl, rfl⟩ := trodVars_none hV
  have hw : ∀ k ∈ d0.weights Try.prog 57, k ≤ reachBytes := fun k hk => by simpa using List.all_eq_true.1 hsz0 _ (DataW.weights_mem_each (j := 0) (t := 57) rfl rfl k hk)
  obtain ⟨cs0, rfl, hsz⟩ := okWide_struct Try.underlying57 (hval 0 57 v0 rfl rfl)
  obtain ⟨fuel, hf⟩ := id h0
  obtain ⟨dk, s, l, dk', s', m, ya, yb, yc, a, b, e0, hs, ht, hl, hm⟩ := MM.open_tells hf hw
  obtain rfl : cs0 = MM.row57 dk s dk' s' ya yb yc a b := by cases cs0; simpa [Value.cells] using e0
  clear hA0 hval0 hsz0
  refine (MM.tells_walk dk dk' s s' l m ya yb yc a b W hs ht hl hm).mono fun e W' ⟨he, bel⟩ => ?_
  subst he
  exact ⟨_, rfl, _, _, _, [], _, [], hW', trodAll_mk1 (shut_bool Try.underlying4 _), (trodAll_cons_mk (Below.trod MM.laidOut (by kernel_rfl) (of_decide_eq_true (by kernel_rfl)) h0 bel (fun x hx => hltA x (by simp [hx]))) trodAll_mk0), rfl, bel.frame _, fun h => by cases h⟩
theorem over : Rows.mirrorTellsRow.holds Try.pinned (OpenSpec.ofChange Rows.mirrorTellsSpec) :=
  OpenClaim.holds_of_wide 9 Try.f9 rfl rfl rfl rfl rfl rfl rfl ⟨rfl, rfl, rfl, rfl, rfl⟩ rfl rfl rfl rfl rfl (by kernel_rfl) Try.func9 (by kernel_rfl)
    (of_decide_eq_true (by kernel_rfl)) (by unfold Func.isWrapper; first | (rw [if_pos (by decide +kernel)]; kernel_rfl) | (rw [if_neg (by decide +kernel)]; exact ⟨rfl, rfl⟩))
    (fun os started H enc _ => lifted os started H enc)
theorem proved : Rows.MirrorTellsSaid := over
#print axioms proved
end Go.Proofs.Ytbchepdaomhgeaa.mirrorTells
namespace Go.Proofs.Ytbchepdaomhgeaa
/-- The row, under a short name, for the claim. -/
theorem mirrorTells_holds : Rows.MirrorTellsSaid := mirrorTells.proved
end Go.Proofs.Ytbchepdaomhgeaa
