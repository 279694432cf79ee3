import Derived.Test.YtmjncjaalleblaaQN
import Derived.Test.YtmjncjaalleblaaQU
/- Layer 4: the root's contract, for any number; the norm 1, in numbers. -/
namespace Go.Proofs.Ytmjncjaalleblaa.PQ
open Go.RowKit Go.Proofs.YtmjncjaalleblaaW.PrintWords Go.Proofs.YtmjncjaalleblaaW.PrintLast Go.Proofs.YtmjncjaalleblaaW.PrintMore
set_option linter.unusedVariables false
set_option linter.unusedSimpArgs false
abbrev RootTo (a R : Int) (o : Bool) : Prop := ∀ w, Calls Try.prog 31 #[.int .i64 a] w (Both w R o)
theorem root_any (a : Int) : ∃ R o, RootTo a R o ∧ InR R ∧ (0 ≤ a → a ≤ 70368744177663 → 0 ≤ R ∧ R ≤ 34359738368 ∧ R * R ≤ a * 16777216 ∧ a * 16777216 < (R + 1) * (R + 1) ∧ o = false) := by
  have c0 := cl_lo a
  have c1 := cl_hi a
  by_cases h : cl a < 0
  · have hf : qfix_Sqrt.f 0 a = some (0, true) := by
      unfold qfix_Sqrt.f
      rw [clamp_f]
      simp only [Option.bind_some]
      rw [if_pos h]
    refine ⟨0, true, fun w => qfix_Sqrt.calls 0 a _ _ w hf, by decide, fun h0 h1 => ?_⟩
    rw [cl_in (by omega) h1] at h
    omega
  · by_cases hi : 0 ≤ a ∧ a ≤ 70368744177663
    · obtain ⟨R, hE, hR0, hR1, hR2, hR3⟩ := sqrt_f a hi.1 hi.2
      obtain ⟨k, hk⟩ := hE.rounds
      refine ⟨R, false, fun w => qfix_Sqrt.calls k a _ _ w hk, by unfold InR; omega, fun h0 h1 => ⟨hR0, ?_, hR2, hR3, rfl⟩⟩
      rcases Int.lt_or_le R 34359738369 with hl | hl
      · omega
      · have := sq_le_sq (x := R) (y := 34359738369) (by omega) hl
        omega
    · have hN : cl a / 1099511627776 * 18446744073709551616 + cl a * 16777216 % 18446744073709551616 = cl a * 16777216 := by omega
      obtain ⟨R, hE, hR0, hR1, _⟩ := root_loop (od a) (cl a / 1099511627776) (cl a * 16777216 % 18446744073709551616) (by omega) (by omega) (by omega) 36 0 (by omega) (by omega) (by decide) (by decide) (by omega)
        (by rw [hN, show ((0 : Int) + 2 ^ 36) * (0 + 2 ^ 36) = 4722366482869645213696 by decide]; omega)
      obtain ⟨k, hk⟩ := hE.rounds
      have hf : qfix_Sqrt.f k a = some (R, od a) := by
        unfold qfix_Sqrt.f
        rw [clamp_f]
        simp only [Option.bind_some]
        rw [if_neg h, u64_wrap, u64_wrap, Int.emod_eq_of_lt (b := 18446744073709551616) (by omega) (by omega)]
        exact hk
      exact ⟨R, od a, fun w => qfix_Sqrt.calls k a _ _ w hf, by unfold InR; omega, fun h0 h1 => absurd ⟨h0, h1⟩ hi⟩
end Go.Proofs.Ytmjncjaalleblaa.PQ
