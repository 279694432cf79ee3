/- BookAll: all that a fold puts out agrees with its log; with one of another place, or one that is another one, it does not; for every input. -/
import Derived.Test.YtnijhjbcjeohhaaV14
import Derived.Test.YtnijhjbcjeohhaaV13
namespace Go.Proofs.Ytnijhjbcjeohhaa.bookAll
open Go.ChangeShapes Go.WideShapes Go.ChangeAt Go.RowKit
set_option linter.unusedVariables false
set_option linter.unusedSimpArgs false
theorem own : ownKnob Try.prog.godebug = none := by kernel_rfl
set_option maxRecDepth 100000 in
theorem lifted (os : Os) (started : os.Started) (H : Type) (enc : TypeId × Value → H) :
    ReturnsInHanded {} Try.checked os 10 .any (Rows.bookAllSpec.pre6 enc Try.prog Try.f10 Rows.bookAllRow.domain false) (Rows.bookAllSpec.post enc Try.prog Try.f10 false true false false) := by
  refine returnsInHanded_of_change_sized (C := Try.checked) own started (by kernel_rfl) Try.func10
    (ChangeSpec.witness6 (enc := enc) (C := Try.checked) false ⟨#[], #[.agg #[.int .i64 0, .int .i64 0, .int .i64 0, .int .i64 0, .int .i64 0, .int .i64 0, .slice none 0 0, .int .i64 0, .int .i64 0]], []⟩ 8 (by kernel_rfl) (by kernel_rfl) (by kernel_rfl) (by kernel_rfl)) ?_
  intro W base args ds gs before hval0 hW hcnd hsz0 _
  have hval : ∀ (j : Nat) t v, Try.f10.params[j]? = some t → args[j]? = some v → Value.okWide Try.prog W .any base t v := hval0
  have hW' := hW
  obtain ⟨p, q, hA0, hV, rfl, hfz, hnd⟩ := hW
  have hA : DataW.TrodAll enc Try.prog W 0 (fun _ => true) true Try.f10.params.toList args.toList ds p := hA0
  have x_ : ∀ x ∈ p, x.block < W.heap.size := hA.lt
  rw [Try.params10] at hA hval
  obtain ⟨v0, Xt, d0, ds0, p0, q0, hargs, rfl, rfl, h0, r0⟩ := trodAll_cons hA
  obtain ⟨rfl, rfl, rfl⟩ := trodAll_nil r0
  obtain rfl : args = #[v0] := by cases args; simp_all
  obtain ⟨rfl, rfl⟩ := trodVars_none hV
  have hw0 : ∀ k ∈ d0.weights Try.prog 81, k ≤ reachBytes := fun k hk => by simpa using List.all_eq_true.1 hsz0 _ (DataW.weights_mem_each (j := 0) (t := 81) rfl rfl k hk)
  obtain ⟨cs0, rfl, X4⟩ := okWide_struct Try.underlying81 (hval 0 81 v0 rfl rfl)
  obtain ⟨fuel0, hf0⟩ := id h0
  obtain ⟨c, A, cp, log, k, y, e0, ⟨a1, a2⟩, hk, hy, hr⟩ := BB.Dv hf0 hw0
  obtain rfl : cs0 = #[KK.I c.dt, KK.I c.acc, KK.I c.bias, KK.I c.dJ, KK.I c.dY, KK.I c.gate, .slice A log.length cp, .int .i64 k, .int .i64 y] := by cases cs0; simpa [Value.cells] using e0
  clear hA0 hval0 hsz0
  refine (BB.AO c log k y A cp W hr hk hy a1 (by omega)).mono fun x W' ⟨he, bel⟩ => ?_
  subst he
  exact ⟨_, rfl, _, _, _, [], _, [], hW', trodAll_mk1 (shut_bool Try.underlying4 _), (trodAll_cons_mk (Below.trod KK.laidOut (by kernel_rfl) (of_decide_eq_true (by kernel_rfl)) h0 bel (fun x hx => x_ x (by simp [hx]))) trodAll_mk0), rfl, bel.frame _, fun h => by cases h⟩
theorem over : Rows.bookAllRow.holds Try.pinned (OpenSpec.ofChange Rows.bookAllSpec) :=
  OpenClaim.holds_of_wide 10 Try.f10 rfl rfl rfl rfl rfl rfl rfl ⟨rfl, rfl, rfl, rfl, rfl⟩ rfl rfl rfl rfl rfl (by kernel_rfl) Try.func10 (by kernel_rfl)
    (of_decide_eq_true (by kernel_rfl)) (by unfold Func.isWrapper; first | (rw [if_pos (by decide +kernel)]; kernel_rfl) | (rw [if_neg (by decide +kernel)]; exact ⟨rfl, rfl⟩))
    (fun os started H enc _ => lifted os started H enc)
theorem proved : Rows.BookAllSaid := over
#print axioms proved
end Go.Proofs.Ytnijhjbcjeohhaa.bookAll
namespace Go.Proofs.Ytnijhjbcjeohhaa
/-- The row, under a short name, for the claim. -/
theorem bookAll_holds : Rows.BookAllSaid := bookAll.proved
end Go.Proofs.Ytnijhjbcjeohhaa
