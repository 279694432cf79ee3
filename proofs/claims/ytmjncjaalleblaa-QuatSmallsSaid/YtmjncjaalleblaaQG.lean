import Derived.Test.YtmjncjaalleblaaQG0
/- Layer 4: the document's example. -/
namespace Go.Proofs.Ytmjncjaalleblaa.PQ
open Go.RowKit Go.Proofs.YtmjncjaalleblaaW.PrintWords Go.Proofs.YtmjncjaalleblaaW.PrintLast Go.Proofs.YtmjncjaalleblaaW.PrintMore
set_option linter.unusedVariables false
set_option linter.unusedSimpArgs false
theorem shown_turn (w : World) : Calls Try.prog 12 #[.agg #[.int .i64 0, .int .i64 0, .int .i64 0, .int .i64 16777216], .agg #[.int .i64 16777216, .int .i64 0, .int .i64 0]] w fun e w' =>
    e = .returned (.tuple #[.agg #[.int .i64 (-16777216), .int .i64 0, .int .i64 0], .bool false]) ∧ Below w.heap.size w w' := by
  have h := qturn_calls 0 0 0 16777216 16777216 0 0 w
  have e1 : turnV (at4 0 0 0 16777216) (at4 0 16777216 0 0) 1 = -16777216 := by decide +kernel
  have e2 : turnV (at4 0 0 0 16777216) (at4 0 16777216 0 0) 2 = 0 := by decide +kernel
  have e3 : turnV (at4 0 0 0 16777216) (at4 0 16777216 0 0) 3 = 0 := by decide +kernel
  have e4 : turnO (at4 0 0 0 16777216) (at4 0 16777216 0 0) = false := by decide +kernel
  rwa [e1, e2, e3, e4] at h
theorem shown_right (w : World) : Calls Try.prog 20 #[.agg #[.int .i64 70368744177663, .int .i64 0, .int .i64 0, .int .i64 0]] w fun e w' => e = .returned (.bool true) ∧ Below w.heap.size w w' := by
  have h := right_calls 70368744177663 0 0 0 w
  have e1 : rightN (at4 70368744177663 0 0 0) 4 = true := by decide +kernel
  rwa [e1] at h
theorem shown_calls (w : World) : Calls Try.prog 9 #[] w fun e w' => e = .returned (.bool true) ∧ Below w.heap.size w w' := by
  go_enter Try.func9, Try.ntmps9
  go_wp2_with fail
  refine (shown_turn _).mono ?_
  rintro e w1 ⟨rfl, hb⟩
  have HB := Lib.hid hb
  clear hb
  have eq := eq26 (-16777216) 0 0 (-16777216) 0 0
  go_wp2_with fail
  refine (shown_right _).mono ?_
  rintro e w2 ⟨rfl, hb⟩
  have HC := Lib.hid hb
  clear hb
  go_wp2
  go_ret
  exact ⟨rfl, by
    have h1 := ((HB.out.alloc HB.out.size (.cells #[.int .i64 (-16777216), .int .i64 0, .int .i64 0] 26)).trans (HC.out.mono (by have := HB.out.size; simp; omega)))
    exact h1⟩
end Go.Proofs.Ytmjncjaalleblaa.PQ
