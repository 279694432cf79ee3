/- BookRises: what rises rises without its last one, and without its first one; with one of the same place behind it, it does not; the places of a generation rise; for every input. -/
import Derived.Test.YtnijhjbcjeohhaaV13
namespace Go.Proofs.Ytnijhjbcjeohhaa.bookRises
open Go.ChangeShapes Go.WideShapes Go.ChangeAt Go.RowKit
set_option linter.unusedVariables false
set_option linter.unusedSimpArgs false
theorem own : ownKnob Try.prog.godebug = none := by kernel_rfl
set_option maxRecDepth 100000 in
theorem lifted (os : Os) (started : os.Started) (H : Type) (enc : TypeId × Value → H) :
    ReturnsInHanded {} Try.checked os 9 .any (Rows.bookRisesSpec.pre6 enc Try.prog Try.f9 Rows.bookRisesRow.domain false) (Rows.bookRisesSpec.post enc Try.prog Try.f9 false true false false) := by
  refine returnsInHanded_of_change_sized (C := Try.checked) own started (by kernel_rfl) Try.func9
    (ChangeSpec.witness6 (enc := enc) (C := Try.checked) false ⟨#[], #[.slice none 0 0, .int .i64 0], []⟩ 8 (by kernel_rfl) (by kernel_rfl) (by kernel_rfl) (by kernel_rfl)) ?_
  intro W base args ds gs before hval0 hW hcnd hsz0 _
  have hval : ∀ (j : Nat) t v, Try.f9.params[j]? = some t → args[j]? = some v → Value.okWide Try.prog W .any base t v := hval0
  have hW' := hW
  obtain ⟨p, q, hA0, hV, rfl, hfz, hnd⟩ := hW
  have hA : DataW.TrodAll enc Try.prog W 0 (fun _ => true) true Try.f9.params.toList args.toList ds p := hA0
  have x_ : ∀ x ∈ p, x.block < W.heap.size := hA.lt
  rw [Try.params9] at hA hval
  obtain ⟨v0, Xt, d0, ds0, p0, q0, hargs, rfl, rfl, h0, r0⟩ := trodAll_cons hA
  obtain ⟨v1, vs1, d1, ds1, p1, q1, rfl, rfl, rfl, h1, r1⟩ := trodAll_cons r0
  obtain ⟨rfl, rfl, rfl⟩ := trodAll_nil r1
  obtain rfl : args = #[v0, v1] := by cases args; simp_all
  obtain ⟨rfl, rfl⟩ := trodVars_none hV
  have hw0 : ∀ k ∈ d0.weights Try.prog 58, k ≤ reachBytes := fun k hk => by simpa using List.all_eq_true.1 hsz0 _ (DataW.weights_mem_each (j := 0) (t := 58) rfl rfl k hk)
  obtain ⟨A, n, c, rfl⟩ := okWide_slice Try.underlying58 (hval 0 58 v0 rfl rfl)
  obtain ⟨fuel0, hf0⟩ := id h0
  obtain ⟨A', c', l, e0, hc0, hm0, hs0⟩ := BB.vw hf0 hw0
  obtain ⟨rfl, rfl, rfl⟩ : A = A' ∧ n = l.length ∧ c = c' := by simpa [Value.cells] using e0
  obtain ⟨g, rfl, rfl, rfl, w1⟩ := open_int Try.underlying2 (hval 1 2 v1 rfl rfl) h1
  clear hA0 hval0 hsz0
  refine (BB.yf l g A c W (fun h => hs0 (by omega)) hc0 (by simp only [maxLen]; omega)).mono fun x W' ⟨he, bel⟩ => ?_
  subst he
  exact ⟨_, rfl, _, _, _, [], _, [], hW', trodAll_mk1 (shut_bool Try.underlying4 _), (trodAll_cons_mk (Below.trod KK.laidOut (by kernel_rfl) (of_decide_eq_true (by kernel_rfl)) h0 bel (fun x hx => x_ x (by simp [hx]))) (trodAll_cons_mk (Below.trod KK.laidOut (by kernel_rfl) (of_decide_eq_true (by kernel_rfl)) h1 bel (fun x hx => by cases hx)) trodAll_mk0)), rfl, bel.frame _, fun h => by cases h⟩
theorem over : Rows.bookRisesRow.holds Try.pinned (OpenSpec.ofChange Rows.bookRisesSpec) :=
  OpenClaim.holds_of_wide 9 Try.f9 rfl rfl rfl rfl rfl rfl rfl ⟨rfl, rfl, rfl, rfl, rfl⟩ rfl rfl rfl rfl rfl (by kernel_rfl) Try.func9 (by kernel_rfl)
    (of_decide_eq_true (by kernel_rfl)) (by unfold Func.isWrapper; first | (rw [if_pos (by decide +kernel)]; kernel_rfl) | (rw [if_neg (by decide +kernel)]; exact ⟨rfl, rfl⟩))
    (fun os started H enc _ => lifted os started H enc)
theorem proved : Rows.BookRisesSaid := over
#print axioms proved
end Go.Proofs.Ytnijhjbcjeohhaa.bookRises
namespace Go.Proofs.Ytnijhjbcjeohhaa
/-- The row, under a short name, for the claim. -/
theorem bookRises_holds : Rows.BookRisesSaid := bookRises.proved
end Go.Proofs.Ytnijhjbcjeohhaa
