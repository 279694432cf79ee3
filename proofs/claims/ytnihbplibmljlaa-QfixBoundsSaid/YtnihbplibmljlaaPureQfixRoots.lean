/- QfixRoots: of each number up to 2^36 the root's square is at most the number, and the next one's is above it; for all a of 32 bits and more of 8 bits. -/
import Derived.Test.YtnihbplibmljlaaPQx5
import Derived.Test.YtnihbplibmljlaaMathD
namespace Go.Proofs.Ytnihbplibmljlaa.Pure
open Go.RowKit Go.Proofs.Ytnihbplibmljlaa.PQ Go.Proofs.YtnihbplibmljlaaW.PrintWords Go.Proofs.YtnihbplibmljlaaW.PrintLast

def bitOf : Nat → Int
  | 0 => 0
  | n + 1 => 2 ^ n
theorem bitOf_half (n : Nat) : bitOf (n + 1) / 2 = bitOf n := by
  cases n with
  | zero => rfl
  | succ n =>
    show (2 : Int) ^ (n + 1) / 2 = 2 ^ n
    rw [Int.pow_succ]
    omega
theorem root_loop (x4 : Bool) (hi lo : Int) (_h0 : 0 ≤ hi) (l0 : 0 ≤ lo) (l1 : lo < 18446744073709551616) : ∀ (n : Nat) (r : Int), n ≤ 36 → 0 ≤ r → r % 2 ^ n = 0 → r + 2 ^ n ≤ 68719476736 →
    r * r ≤ hi * 18446744073709551616 + lo → hi * 18446744073709551616 + lo < (r + 2 ^ n) * (r + 2 ^ n) →
    ∃ R, Ev (fun k => qfix_Sqrt.l0 k x4 hi lo r (bitOf n)) (R, x4) ∧ 0 ≤ R ∧ R ≤ 68719476735 ∧ R * R ≤ hi * 18446744073709551616 + lo ∧ hi * 18446744073709551616 + lo < (R + 1) * (R + 1) := by
  intro n
  induction n with
  | zero =>
    intro r hn hr hm hb hle hlt
    refine ⟨r, Ev.step (f := fun _ => some (r, x4)) ?_ (Ev.now _), hr, by omega, hle, by simpa using hlt⟩
    intro k
    show qfix_Sqrt.l0 (k + 1) x4 hi lo r 0 = _
    simp only [qfix_Sqrt.l0]
    rw [if_neg (by omega), w64 (by omega) (by omega)]
  | succ n ih =>
    intro r hn hr hm hb hle hlt
    have hp : (0 : Int) < 2 ^ n := by rw [← pow_int]; have := Nat.two_pow_pos n; omega
    have hps : (2 : Int) ^ (n + 1) = 2 * 2 ^ n := by rw [Int.pow_succ]; omega
    have hor : Go.bits .or .u64 r (2 ^ n) = r + 2 ^ n :=
      bits_join .u64 64 (by decide) wraps_u64 (n + 1) r (2 ^ n) hr hm (by omega) (by omega) (by omega) (by omega)
    have hr1 : r % 2 ^ n = 0 := by
      have : r = 2 ^ (n + 1) * (r / 2 ^ (n + 1)) := by have := Int.mul_ediv_add_emod r (2 ^ (n + 1)); omega
      rw [this, hps, Int.mul_assoc, Int.mul_comm 2, Int.mul_assoc]
      exact Int.mul_emod_right _ _
    have hr2 : (r + 2 ^ n) % 2 ^ n = 0 := by rw [Int.add_emod_right]; exact hr1
    have hsq0 : 0 ≤ (r + 2 ^ n) * (r + 2 ^ n) := Int.mul_nonneg (by omega) (by omega)
    have hsq1 : (r + 2 ^ n) * (r + 2 ^ n) ≤ 68719476736 * 68719476736 := Int.mul_le_mul (by omega) (by omega) (by omega) (by omega)
    have hm64 : bits_Mul64.f (r + 2 ^ n) (r + 2 ^ n) = some ((r + 2 ^ n) * (r + 2 ^ n) / 18446744073709551616, (r + 2 ^ n) * (r + 2 ^ n) % 18446744073709551616) := by
      unfold bits_Mul64.f
      rw [if_pos ⟨by omega, by omega, by omega, by omega⟩]
    have hb2 := bitOf_half n
    have hpos : bitOf (n + 1) > 0 := hp
    by_cases hc : (r + 2 ^ n) * (r + 2 ^ n) ≤ hi * 18446744073709551616 + lo
    · obtain ⟨R, hE, hrest⟩ := ih (r + 2 ^ n) (by omega) (by omega) hr2 (by omega) hc (by rw [Int.add_assoc, show (2 : Int) ^ n + 2 ^ n = 2 ^ (n + 1) by omega]; exact hlt)
      refine ⟨R, Ev.step (f := fun k => qfix_Sqrt.l0 k x4 hi lo (r + 2 ^ n) (bitOf n)) ?_ hE, hrest⟩
      intro k
      simp only [qfix_Sqrt.l0]
      rw [if_pos hpos, hb2, show bitOf (n + 1) = 2 ^ n from rfl, hor, hm64]
      simp only [Option.bind_some]
      generalize (r + 2 ^ n) * (r + 2 ^ n) = Z at *
      split
      · rfl
      · rw [if_pos (by omega), if_pos (by omega)]
    · obtain ⟨R, hE, hrest⟩ := ih r (by omega) hr hr1 (by omega) hle (by omega)
      refine ⟨R, Ev.step (f := fun k => qfix_Sqrt.l0 k x4 hi lo r (bitOf n)) ?_ hE, hrest⟩
      intro k
      simp only [qfix_Sqrt.l0]
      rw [if_pos hpos, hb2, show bitOf (n + 1) = 2 ^ n from rfl, hor, hm64]
      simp only [Option.bind_some]
      generalize (r + 2 ^ n) * (r + 2 ^ n) = Z at *
      rw [if_neg (by omega)]
      split
      · rw [if_neg (by omega)]
      · rfl
theorem sqrt_f (a : Int) (h0 : 0 ≤ a) (h1 : a ≤ 70368744177663) : ∃ R, Ev (fun k => qfix_Sqrt.f k a) (R, false) ∧ 0 ≤ R ∧ R ≤ 68719476735 ∧ R * R ≤ a * 16777216 ∧ a * 16777216 < (R + 1) * (R + 1) := by
  have hN : a / 1099511627776 * 18446744073709551616 + a * 16777216 % 18446744073709551616 = a * 16777216 := by omega
  obtain ⟨R, hE, h⟩ := root_loop false (a / 1099511627776) (a * 16777216 % 18446744073709551616) (by omega) (by omega) (by omega) 36 0 (by omega) (by omega) (by decide) (by decide) (by omega)
    (by rw [hN, show ((0 : Int) + 2 ^ 36) * (0 + 2 ^ 36) = 4722366482869645213696 by decide]; omega)
  rw [hN] at h
  refine ⟨R, Ev.congr ?_ hE, h⟩
  intro k
  unfold qfix_Sqrt.f
  rw [clamp_f, cl_in (by omega) (by omega), od_in (by omega) (by omega)]
  simp only [Option.bind_some]
  rw [if_neg (by omega), u64_wrap, u64_wrap, Int.emod_eq_of_lt (b := 18446744073709551616) h0 (by omega)]
  rfl

theorem QfixRoots : alidadelaw01_QfixRoots.Pure := by
  intro a b ha hb
  have ha' : 0 ≤ a ∧ a ≤ 4294967295 := by simpa [Lit.wf, IntKind.min, IntKind.max, IntKind.signed, IntKind.bits] using ha
  have hb' : 0 ≤ b ∧ b ≤ 255 := by simpa [Lit.wf, IntKind.min, IntKind.max, IntKind.signed, IntKind.bits] using hb
  have hm : ((Int.tmod b 16) + 1) % 256 = b % 16 + 1 := by rw [Int.tmod_eq_emod_of_nonneg hb'.1]; omega
  have hp0 : 0 ≤ a * (b % 16 + 1) := Int.mul_nonneg ha'.1 (by omega)
  have hp1 : a * (b % 16 + 1) ≤ 4294967295 * 16 := Int.mul_le_mul ha'.2 (by omega) (by omega) (by omega)
  obtain ⟨R, ⟨K2, hK2⟩, hR0, hR1, hle, hlt⟩ := sqrt_f (a * (b % 16 + 1)) hp0 (by omega)
  obtain ⟨K1, hK1⟩ := shown_f
  refine ⟨max K1 K2, ?_⟩
  have e1 : alidadelaw01_shown.f (max K1 K2) = some true := hK1 _ (by omega)
  have e2 : qfix_Sqrt.f (max K1 K2) (a * (b % 16 + 1)) = some (R, false) := hK2 _ (by omega)
  have hRb : R ≤ 1073741824 := by
    rcases Int.lt_or_le 1073741824 R with h | h
    · have := Int.mul_le_mul (a := 1073741825) (b := 1073741825) (c := R) (d := R) (by omega) (by omega) (by omega) (by omega)
      omega
    · exact h
  have hq1 : (R + 1) * (R + 1) ≤ 1073741825 * 1073741825 := Int.mul_le_mul (by omega) (by omega) (by omega) (by omega)
  unfold alidadelaw01_QfixRoots.f
  rw [e1, hm, w64 (n := a) (by omega) (by omega), w64 (n := a * (b % 16 + 1)) (by omega) (by omega), e2]
  simp only [Option.bind_some, Bool.false_eq_true, if_false, if_true]
  generalize a * (b % 16 + 1) = n at *
  have hs0 : 0 ≤ R * R := Int.mul_nonneg hR0 hR0
  rw [if_neg (by omega), if_neg (by omega), w64 (n := n * 16777216) (by omega) (by omega), w64 (n := R * R) (by omega) (by omega), if_pos hle, w64 (n := R + 1) (by omega) (by omega), w64 (n := (R + 1) * (R + 1)) (by omega) (by omega), decide_eq_true hlt]
end Go.Proofs.Ytnihbplibmljlaa.Pure
