import Derived.Test.YtmjncjaalleblaaMathC
/- Plain laws of layer 1: sums, quotients, roots; the document's example. -/
namespace Go.Proofs.Ytmjncjaalleblaa.PQ
open Go.RowKit Go.Proofs.YtmjncjaalleblaaW.PrintWords Go.Proofs.YtmjncjaalleblaaW.PrintLast Go.Proofs.YtmjncjaalleblaaW.PrintMore

theorem add_f (a b : Int) : qfix_Add.f a b = some (cl (cl a + cl b), (od a || od b) || od (cl a + cl b)) := by
  have := cl_lo a
  have := cl_hi a
  have := cl_lo b
  have := cl_hi b
  unfold qfix_Add.f
  rw [both_f]
  simp only [Option.bind_some]
  rw [w64 (by omega) (by omega), clamp_f]
  simp only [Option.bind_some]
  cases (od a || od b) <;> simp
theorem sub_f (a b : Int) : qfix_Sub.f a b = some (cl (cl a - cl b), (od a || od b) || od (cl a - cl b)) := by
  have := cl_lo a
  have := cl_hi a
  have := cl_lo b
  have := cl_hi b
  unfold qfix_Sub.f
  rw [both_f]
  simp only [Option.bind_some]
  rw [w64 (by omega) (by omega), clamp_f]
  simp only [Option.bind_some]
  cases (od a || od b) <;> simp
/-- a quotient, rounded -/
def rn (N y : Int) : Int := if N % y > y - N % y then (N / y + 1) % 18446744073709551616 else if N % y = y - N % y then (if N / y % 2 = 1 then (N / y + 1) % 18446744073709551616 else N / y) else N / y
def dvs (a b : Int) : Int × Bool :=
  if cl b = 0 then (if cl a > 0 then (70368744177663, true) else if cl a < 0 then (-70368744177664, true) else (0, true))
  else if sz (cl a) / 1099511627776 ≥ sz (cl b) then ((sg 1 0 ((decide (cl a < 0)) != (decide (cl b < 0)))).1, true)
  else flag (od a || od b) (sg 0 (rn (sz (cl a) * 16777216) (sz (cl b))) ((decide (cl a < 0)) != (decide (cl b < 0))))
theorem div_f (a b : Int) : Ev (fun k => qfix_Div.f k a b) (dvs a b) := by
  have c1 := cl_lo a
  have c2 := cl_hi a
  have c3 := cl_lo b
  have c4 := cl_hi b
  have ha := sz_cl a
  have hb := sz_cl b
  have ha0 := sz_0 (cl a)
  have hb0 := sz_0 (cl b)
  have hbz : cl b ≠ 0 → 0 < sz (cl b) := fun h => by unfold sz at *; split at hb0 <;> split <;> omega
  by_cases h0 : cl b = 0
  · refine Ev.congr (f := fun _ => some (dvs a b)) ?_ (Ev.now _)
    intro k
    unfold qfix_Div.f dvs
    rw [both_f]
    simp only [Option.bind_some]
    rw [if_pos h0, if_pos h0]
    repeat' split
    all_goals rfl
  · have hy := hbz h0
    by_cases h1 : sz (cl a) / 1099511627776 ≥ sz (cl b)
    · refine Ev.congr (f := fun _ => some (dvs a b)) ?_ (Ev.now _)
      intro k
      unfold qfix_Div.f dvs
      rw [both_f]
      simp only [Option.bind_some]
      rw [if_neg h0, if_neg h0, size_f _ (by omega) (by omega), size_f _ (by omega) (by omega)]
      simp only [Option.bind_some]
      rw [if_pos h1, if_pos h1, signed_f _ _ _ (by omega)]
      rfl
    · have hdv := div64 (sz (cl a) / 1099511627776) (IntKind.u64.wrap (sz (cl a) * 16777216)) (sz (cl b)) (by omega) (by omega) (by omega) (by rw [u64_wrap]; omega) (by rw [u64_wrap]; omega)
      have hN : sz (cl a) / 1099511627776 * 18446744073709551616 + IntKind.u64.wrap (sz (cl a) * 16777216) = sz (cl a) * 16777216 := by rw [u64_wrap]; omega
      rw [hN] at hdv
      obtain ⟨K, hK⟩ := hdv
      refine ⟨K, fun k hk => ?_⟩
      have hk' := hK k hk
      show qfix_Div.f k a b = _
      unfold qfix_Div.f dvs
      rw [both_f]
      simp only [Option.bind_some]
      rw [if_neg h0, if_neg h0, size_f _ (by omega) (by omega), size_f _ (by omega) (by omega)]
      simp only [Option.bind_some]
      rw [if_neg h1, if_neg h1]
      simp only [] at hk'
      rw [hk']
      simp only [Option.bind_some]
      generalize ((decide (cl a < 0)) != (decide (cl b < 0))) = s
      generalize (od a || od b) = o
      have hq0 : 0 ≤ sz (cl a) * 16777216 / sz (cl b) := Int.ediv_nonneg (by omega) (by omega)
      have hq1 : sz (cl a) * 16777216 / sz (cl b) < 18446744073709551616 := Int.ediv_lt_of_lt_mul hy (by omega)
      have hr0 := Int.emod_nonneg (sz (cl a) * 16777216) (show sz (cl b) ≠ 0 by omega)
      have hr1 := Int.emod_lt_of_pos (sz (cl a) * 16777216) hy
      rw [mask1 _ hq0 hq1, wraps_u64 (sz (cl b) - _) (by omega) (by omega), u64_wrap]
      have k0 : 0 ≤ rn (sz (cl a) * 16777216) (sz (cl b)) := by unfold rn; repeat' split <;> omega
      rw [show (some (flag o (sg 0 (rn (sz (cl a) * 16777216) (sz (cl b))) s))) = (qfix_signed.f 0 (rn (sz (cl a) * 16777216) (sz (cl b))) s).bind fun bt => (if o = true then (some (bt.1, true)) else (some (bt.1, bt.2))) from by
        rw [signed_f _ _ _ k0]; simp only [Option.bind_some]; rw [flag_some]]
      unfold rn
      split
      · rfl
      · split
        · split <;> rfl
        · rfl

theorem in_f (a : Int) : alidaderef01_In.f a = some (decide (-70368744177664 ≤ a ∧ a ≤ 70368744177663)) := by
  unfold alidaderef01_In.f
  by_cases h : a ≥ -70368744177664
  · rw [if_pos h]
    congr 1
    rw [decide_eq_decide]
    omega
  · rw [if_neg h]
    congr 1
    symm
    simp
    omega
def bitOf : Nat → Int
  | 0 => 0
  | n + 1 => 2 ^ n
theorem bitOf_half (n : Nat) : bitOf (n + 1) / 2 = bitOf n := by
  cases n with
  | zero => rfl
  | succ n =>
    show (2 : Int) ^ (n + 1) / 2 = 2 ^ n
    rw [Int.pow_succ]
    omega
theorem root_loop (x4 : Bool) (hi lo : Int) (_h0 : 0 ≤ hi) (l0 : 0 ≤ lo) (l1 : lo < 18446744073709551616) : ∀ (n : Nat) (r : Int), n ≤ 36 → 0 ≤ r → r % 2 ^ n = 0 → r + 2 ^ n ≤ 68719476736 →
    r * r ≤ hi * 18446744073709551616 + lo → hi * 18446744073709551616 + lo < (r + 2 ^ n) * (r + 2 ^ n) →
    ∃ R, Ev (fun k => qfix_Sqrt.l0 k x4 hi lo r (bitOf n)) (R, x4) ∧ 0 ≤ R ∧ R ≤ 68719476735 ∧ R * R ≤ hi * 18446744073709551616 + lo ∧ hi * 18446744073709551616 + lo < (R + 1) * (R + 1) := by
  intro n
  induction n with
  | zero =>
    intro r hn hr hm hb hle hlt
    refine ⟨r, Ev.step (f := fun _ => some (r, x4)) ?_ (Ev.now _), hr, by omega, hle, by simpa using hlt⟩
    intro k
    show qfix_Sqrt.l0 (k + 1) x4 hi lo r 0 = _
    simp only [qfix_Sqrt.l0]
    rw [if_neg (by omega), w64 (by omega) (by omega)]
  | succ n ih =>
    intro r hn hr hm hb hle hlt
    have hp : (0 : Int) < 2 ^ n := by rw [← pow_int]; have := Nat.two_pow_pos n; omega
    have hps : (2 : Int) ^ (n + 1) = 2 * 2 ^ n := by rw [Int.pow_succ]; omega
    have hor : Go.bits .or .u64 r (2 ^ n) = r + 2 ^ n :=
      bits_join .u64 64 (by decide) wraps_u64 (n + 1) r (2 ^ n) hr hm (by omega) (by omega) (by omega) (by omega)
    have hr1 : r % 2 ^ n = 0 := by
      have : r = 2 ^ (n + 1) * (r / 2 ^ (n + 1)) := by have := Int.mul_ediv_add_emod r (2 ^ (n + 1)); omega
      rw [this, hps, Int.mul_assoc, Int.mul_comm 2, Int.mul_assoc]
      exact Int.mul_emod_right _ _
    have hr2 : (r + 2 ^ n) % 2 ^ n = 0 := by rw [Int.add_emod_right]; exact hr1
    have hsq0 : 0 ≤ (r + 2 ^ n) * (r + 2 ^ n) := Int.mul_nonneg (by omega) (by omega)
    have hsq1 : (r + 2 ^ n) * (r + 2 ^ n) ≤ 68719476736 * 68719476736 := Int.mul_le_mul (by omega) (by omega) (by omega) (by omega)
    have hm64 : bits_Mul64.f (r + 2 ^ n) (r + 2 ^ n) = some ((r + 2 ^ n) * (r + 2 ^ n) / 18446744073709551616, (r + 2 ^ n) * (r + 2 ^ n) % 18446744073709551616) := by
      unfold bits_Mul64.f
      rw [if_pos ⟨by omega, by omega, by omega, by omega⟩]
    have hb2 := bitOf_half n
    have hpos : bitOf (n + 1) > 0 := hp
    by_cases hc : (r + 2 ^ n) * (r + 2 ^ n) ≤ hi * 18446744073709551616 + lo
    · obtain ⟨R, hE, hrest⟩ := ih (r + 2 ^ n) (by omega) (by omega) hr2 (by omega) hc (by rw [Int.add_assoc, show (2 : Int) ^ n + 2 ^ n = 2 ^ (n + 1) by omega]; exact hlt)
      refine ⟨R, Ev.step (f := fun k => qfix_Sqrt.l0 k x4 hi lo (r + 2 ^ n) (bitOf n)) ?_ hE, hrest⟩
      intro k
      simp only [qfix_Sqrt.l0]
      rw [if_pos hpos, hb2, show bitOf (n + 1) = 2 ^ n from rfl, hor, hm64]
      simp only [Option.bind_some]
      generalize (r + 2 ^ n) * (r + 2 ^ n) = Z at *
      split
      · rfl
      · rw [if_pos (by omega), if_pos (by omega)]
    · obtain ⟨R, hE, hrest⟩ := ih r (by omega) hr hr1 (by omega) hle (by omega)
      refine ⟨R, Ev.step (f := fun k => qfix_Sqrt.l0 k x4 hi lo r (bitOf n)) ?_ hE, hrest⟩
      intro k
      simp only [qfix_Sqrt.l0]
      rw [if_pos hpos, hb2, show bitOf (n + 1) = 2 ^ n from rfl, hor, hm64]
      simp only [Option.bind_some]
      generalize (r + 2 ^ n) * (r + 2 ^ n) = Z at *
      rw [if_neg (by omega)]
      split
      · rw [if_neg (by omega)]
      · rfl
theorem sqrt_f (a : Int) (h0 : 0 ≤ a) (h1 : a ≤ 70368744177663) : ∃ R, Ev (fun k => qfix_Sqrt.f k a) (R, false) ∧ 0 ≤ R ∧ R ≤ 68719476735 ∧ R * R ≤ a * 16777216 ∧ a * 16777216 < (R + 1) * (R + 1) := by
  have hN : a / 1099511627776 * 18446744073709551616 + a * 16777216 % 18446744073709551616 = a * 16777216 := by omega
  obtain ⟨R, hE, h⟩ := root_loop false (a / 1099511627776) (a * 16777216 % 18446744073709551616) (by omega) (by omega) (by omega) 36 0 (by omega) (by omega) (by decide) (by decide) (by omega)
    (by rw [hN, show ((0 : Int) + 2 ^ 36) * (0 + 2 ^ 36) = 4722366482869645213696 by decide]; omega)
  rw [hN] at h
  refine ⟨R, Ev.congr ?_ hE, h⟩
  intro k
  unfold qfix_Sqrt.f
  rw [clamp_f, cl_in (by omega) (by omega), od_in (by omega) (by omega)]
  simp only [Option.bind_some]
  rw [if_neg (by omega), u64_wrap, u64_wrap, Int.emod_eq_of_lt (b := 18446744073709551616) h0 (by omega)]
  rfl

end Go.Proofs.Ytmjncjaalleblaa.PQ
