-- Laid by a program of this session's own, out of the translation; Lean checks it.
import Derived.Test.YtnihbplibmljlaaPQx0
namespace Go.Proofs.Ytnihbplibmljlaa.PQ
open Go.RowKit Go.Proofs.YtnihbplibmljlaaW.PrintWords Go.Proofs.YtnihbplibmljlaaW.PrintLast Go.Proofs.YtnihbplibmljlaaW.PrintMore
attribute [local go_sem] max2_int min2_int max_two min_two max_three min_three max_four min_four   -- for this text's walks alone
set_option linter.unusedVariables false
set_option linter.unusedSimpArgs false

/-! ### qfix_Of: function 23 -/
def qfix_Of.f (a0 : Int) : Option (Int × Bool) := if a0 > 4194303 then (some (70368744177663, true)) else (if a0 < (-4194304) then (some ((-70368744177664), true)) else (some (wrap64 (a0 * 16777216), false)))
set_option maxHeartbeats 8000000 in
set_option maxRecDepth 100000 in
theorem qfix_Of.calls (a0 : Int) (r1 : Int) (r2 : Bool) (w : World) (h : qfix_Of.f a0 = some (r1, r2)) :
    Calls Try.prog 23 #[.int .i64 a0] w fun e w' => e = .returned (.tuple #[.int .i64 r1, .bool r2]) ∧ Drawn0 w w' := by
  have H : (if a0 > 4194303 then (some (70368744177663, true)) else (if a0 < (-4194304) then (some ((-70368744177664), true)) else (some (wrap64 (a0 * 16777216), false)))) = some (r1, r2) := h
  clear h
  by_cases c2 : a0 > 4194303
  · rw [if_pos c2] at H
    have c2b0 : decide (4194303 < a0) = true := decide_eq_true c2
    clear c2
    simp only [Option.some.injEq, Prod.mk.injEq] at H
    obtain ⟨rfl, rfl⟩ := H
    go_enter Try.func23, Try.ntmps23
    go_wp2
    go_ret2
    exact ⟨by first | rfl | (simp; done) | (simp [*]; done), by repeat (first | exact Drawn0.refl _ | apply Drawn0.step)⟩
  · rw [if_neg c2] at H
    have c2b0 : decide (4194303 < a0) = false := decide_eq_false c2
    clear c2
    by_cases c3 : a0 < (-4194304)
    · rw [if_pos c3] at H
      have c3b0 : decide (a0 < (-4194304)) = true := decide_eq_true c3
      clear c3
      simp only [Option.some.injEq, Prod.mk.injEq] at H
      obtain ⟨rfl, rfl⟩ := H
      go_enter Try.func23, Try.ntmps23
      go_wp2
      go_ret2
      exact ⟨by first | rfl | (simp; done) | (simp [*]; done), by repeat (first | exact Drawn0.refl _ | apply Drawn0.step)⟩
    · rw [if_neg c3] at H
      have c3b0 : decide (a0 < (-4194304)) = false := decide_eq_false c3
      clear c3
      simp only [Option.some.injEq, Prod.mk.injEq] at H
      obtain ⟨rfl, rfl⟩ := H
      go_enter Try.func23, Try.ntmps23
      go_wp2
      go_ret2
      exact ⟨by first | rfl | (simp; done) | (simp [*]; done), by repeat (first | exact Drawn0.refl _ | apply Drawn0.step)⟩

end Go.Proofs.Ytnihbplibmljlaa.PQ
