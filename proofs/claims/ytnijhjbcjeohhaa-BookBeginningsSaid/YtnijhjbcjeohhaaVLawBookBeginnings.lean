/- BookBeginnings: a log begins with each beginning of it; two that begin with one another are the same; for every input. -/
import Derived.Test.YtnijhjbcjeohhaaV13
namespace Go.Proofs.Ytnijhjbcjeohhaa.bookBeginnings
open Go.ChangeShapes Go.WideShapes Go.ChangeAt Go.RowKit
set_option linter.unusedVariables false
set_option linter.unusedSimpArgs false
theorem own : ownKnob Try.prog.godebug = none := by kernel_rfl
set_option maxRecDepth 100000 in
theorem lifted (os : Os) (started : os.Started) (H : Type) (enc : TypeId × Value → H) :
    ReturnsInHanded {} Try.checked os 11 .any (Rows.bookBeginningsSpec.pre6 enc Try.prog Try.f11 Rows.bookBeginningsRow.domain false) (Rows.bookBeginningsSpec.post enc Try.prog Try.f11 false true false false) := by
  refine returnsInHanded_of_change_sized (C := Try.checked) own started (by kernel_rfl) Try.func11
    (ChangeSpec.witness6 (enc := enc) (C := Try.checked) false ⟨#[], #[.slice none 0 0, .slice none 0 0, .int .i64 0], []⟩ 8 (by kernel_rfl) (by kernel_rfl) (by kernel_rfl) (by kernel_rfl)) ?_
  intro W base args ds gs before hval0 hW hcnd hsz0 _
  have hval : ∀ (j : Nat) t v, Try.f11.params[j]? = some t → args[j]? = some v → Value.okWide Try.prog W .any base t v := hval0
  have hW' := hW
  obtain ⟨p, q, hA0, hV, rfl, hfz, hnd⟩ := hW
  have hA : DataW.TrodAll enc Try.prog W 0 (fun _ => true) true Try.f11.params.toList args.toList ds p := hA0
  have x_ : ∀ x ∈ p, x.block < W.heap.size := hA.lt
  rw [Try.params11] at hA hval
  obtain ⟨v0, Xt, d0, ds0, p0, q0, hargs, rfl, rfl, h0, r0⟩ := trodAll_cons hA
  obtain ⟨v1, vs1, d1, ds1, p1, q1, rfl, rfl, rfl, h1, r1⟩ := trodAll_cons r0
  obtain ⟨v2, vs2, d2, ds2, p2, q2, rfl, rfl, rfl, h2, r2⟩ := trodAll_cons r1
  obtain ⟨rfl, rfl, rfl⟩ := trodAll_nil r2
  obtain rfl : args = #[v0, v1, v2] := by cases args; simp_all
  obtain ⟨rfl, rfl⟩ := trodVars_none hV
  have hw0 : ∀ k ∈ d0.weights Try.prog 57, k ≤ reachBytes := fun k hk => by simpa using List.all_eq_true.1 hsz0 _ (DataW.weights_mem_each (j := 0) (t := 57) rfl rfl k hk)
  obtain ⟨A0, n0, c0, rfl⟩ := okWide_slice Try.underlying57 (hval 0 57 v0 rfl rfl)
  obtain ⟨fuel0, hf0⟩ := id h0
  obtain ⟨A', c', a, e0, hc0, hm0, hs0⟩ := BB.ig hf0 hw0
  obtain ⟨rfl, rfl, rfl⟩ : A0 = A' ∧ n0 = a.length ∧ c0 = c' := by simpa [Value.cells] using e0
  have hw1 : ∀ k ∈ d1.weights Try.prog 57, k ≤ reachBytes := fun k hk => by simpa using List.all_eq_true.1 hsz0 _ (DataW.weights_mem_each (j := 1) (t := 57) rfl rfl k hk)
  obtain ⟨A1, n1, c1, rfl⟩ := okWide_slice Try.underlying57 (hval 1 57 v1 rfl rfl)
  obtain ⟨fuel1, hf1⟩ := id h1
  obtain ⟨A', c', b, e1, hc1, hm1, hs1⟩ := BB.ig hf1 hw1
  obtain ⟨rfl, rfl, rfl⟩ : A1 = A' ∧ n1 = b.length ∧ c1 = c' := by simpa [Value.cells] using e1
  obtain ⟨n, rfl, rfl, rfl, w2⟩ := open_int Try.underlying3 (hval 2 3 v2 rfl rfl) h2
  clear hA0 hval0 hsz0
  refine (BB.sF a b n A0 A1 c0 c1 W (fun h => ⟨hs0 (by omega), hs1 (by omega)⟩) ⟨by omega, by omega⟩ hc0 (by omega) hc1 (by omega)).mono fun x W' ⟨he, bel⟩ => ?_
  subst he
  exact ⟨_, rfl, _, _, _, [], _, [], hW', trodAll_mk1 (shut_bool Try.underlying4 _), (trodAll_cons_mk (Below.trod KK.laidOut (by kernel_rfl) (of_decide_eq_true (by kernel_rfl)) h0 bel (fun x hx => x_ x (by simp [hx]))) (trodAll_cons_mk (Below.trod KK.laidOut (by kernel_rfl) (of_decide_eq_true (by kernel_rfl)) h1 bel (fun x hx => x_ x (by simp [hx]))) (trodAll_cons_mk (Below.trod KK.laidOut (by kernel_rfl) (of_decide_eq_true (by kernel_rfl)) h2 bel (fun x hx => by cases hx)) trodAll_mk0))), rfl, bel.frame _, fun h => by cases h⟩
theorem over : Rows.bookBeginningsRow.holds Try.pinned (OpenSpec.ofChange Rows.bookBeginningsSpec) :=
  OpenClaim.holds_of_wide 11 Try.f11 rfl rfl rfl rfl rfl rfl rfl ⟨rfl, rfl, rfl, rfl, rfl⟩ rfl rfl rfl rfl rfl (by kernel_rfl) Try.func11 (by kernel_rfl)
    (of_decide_eq_true (by kernel_rfl)) (by unfold Func.isWrapper; first | (rw [if_pos (by decide +kernel)]; kernel_rfl) | (rw [if_neg (by decide +kernel)]; exact ⟨rfl, rfl⟩))
    (fun os started H enc _ => lifted os started H enc)
theorem proved : Rows.BookBeginningsSaid := over
#print axioms proved
end Go.Proofs.Ytnijhjbcjeohhaa.bookBeginnings
namespace Go.Proofs.Ytnijhjbcjeohhaa
/-- The row, under a short name, for the claim. -/
theorem bookBeginnings_holds : Rows.BookBeginningsSaid := bookBeginnings.proved
end Go.Proofs.Ytnijhjbcjeohhaa
