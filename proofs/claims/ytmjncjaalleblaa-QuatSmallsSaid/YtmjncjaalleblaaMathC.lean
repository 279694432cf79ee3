import Derived.Test.YtmjncjaalleblaaMathB
/- Plain laws of layer 1: bits.Div64 is the quotient and the rest; what qfix.Div comes to. -/
namespace Go.Proofs.Ytmjncjaalleblaa.PQ
open Go.RowKit Go.Proofs.YtmjncjaalleblaaW.PrintWords Go.Proofs.YtmjncjaalleblaaW.PrintLast Go.Proofs.YtmjncjaalleblaaW.PrintMore

theorem lenAux_zero (f : Nat) : Lib.bitLenAux f 0 = 0 := by cases f <;> simp [Lib.bitLenAux]
theorem lenAux_bounds : ∀ (f x : Nat), x < 2 ^ f → x < 2 ^ Lib.bitLenAux f x ∧ (x ≠ 0 → 2 ^ Lib.bitLenAux f x ≤ 2 * x)
  | 0, x, h => by simp at h; subst h; simp [Lib.bitLenAux]
  | f + 1, x, h => by
    by_cases hx : x = 0
    · subst hx
      rw [lenAux_zero]
      simp
    · obtain ⟨h1, h2⟩ := lenAux_bounds f (x / 2) (by rw [Nat.pow_succ] at h; omega)
      simp only [Lib.bitLenAux, if_neg hx]
      rw [Nat.pow_add]
      generalize hA : 2 ^ Lib.bitLenAux f (x / 2) = A at *
      refine ⟨by omega, fun _ => ?_⟩
      by_cases h0 : x / 2 = 0
      · have : x = 1 := by omega
        subst this
        rw [h0, lenAux_zero] at hA
        simp at hA
        omega
      · have := h2 h0
        omega
theorem pow_int (n : Nat) : ((2 ^ n : Nat) : Int) = (2 : Int) ^ n := by simp
theorem norm_y (y : Int) (h0 : 0 < y) (h1 : y < 18446744073709551616) :
    ∃ s : Nat, s ≤ 63 ∧ bits_LeadingZeros64.f y = some (s : Int) ∧ 9223372036854775808 ≤ y * 2 ^ s ∧ y * 2 ^ s < 18446744073709551616 := by
  obtain ⟨n, rfl⟩ := Int.eq_ofNat_of_zero_le (Int.le_of_lt h0)
  have hb := lenAux_bounds 64 n (by omega)
  have hle : Lib.bitLen n ≤ 64 := Lib.bitLen_le n 64 (by decide) (by omega)
  have hn0 : n ≠ 0 := by omega
  have hb2 := hb.2 hn0
  have hb1 := hb.1
  change n < 2 ^ Lib.bitLen n at hb1
  change 2 ^ Lib.bitLen n ≤ 2 * n at hb2
  have hpos : 1 ≤ Lib.bitLen n := by
    rcases Nat.eq_zero_or_pos (Lib.bitLen n) with h | h
    · rw [h] at hb1
      omega
    · exact h
  have hp : 2 ^ Lib.bitLen n * 2 ^ (64 - Lib.bitLen n) = 18446744073709551616 := by
    rw [← Nat.pow_add, show Lib.bitLen n + (64 - Lib.bitLen n) = 64 by omega]
  have hP : 0 < 2 ^ (64 - Lib.bitLen n) := Nat.two_pow_pos _
  have e1 := Nat.mul_le_mul_right (2 ^ (64 - Lib.bitLen n)) hb2
  have e2 := Nat.mul_lt_mul_of_pos_right hb1 hP
  rw [Nat.mul_assoc] at e1
  refine ⟨64 - Lib.bitLen n, by omega, ?_, ?_, ?_⟩
  · unfold bits_LeadingZeros64.f
    rw [if_pos ⟨by omega, by omega⟩]
    simp
    omega
  · rw [← pow_int, ← Int.natCast_mul]
    omega
  · rw [← pow_int, ← Int.natCast_mul]
    omega

theorem div64_one (hi lo y : Int) (h0 : 0 ≤ hi) (h1 : hi < y) (hy : y < 18446744073709551616) (hl0 : 0 ≤ lo) (hl1 : lo < 18446744073709551616) (hne : hi ≠ 0) :
    Ev (fun k => bits_Div64.f k hi lo y) ((hi * 18446744073709551616 + lo) / y, (hi * 18446744073709551616 + lo) % y) := by
  obtain ⟨s, hs, hlz, hD1, hD2⟩ := norm_y y (by omega) hy
  have hP : (0 : Int) < 2 ^ s := by rw [← pow_int]; have := Nat.two_pow_pos s; omega
  have hR : (0 : Int) < 2 ^ (64 - s) := by rw [← pow_int]; have := Nat.two_pow_pos (64 - s); omega
  have hPR : (2 : Int) ^ (64 - s) * 2 ^ s = 18446744073709551616 := by
    rw [← Int.pow_add, show 64 - s + s = 64 by omega]; rfl
  have hS : shl .u64 y s = y * 2 ^ s := by
    unfold shl
    rw [show min (s : Int).toNat IntKind.u64.bits = s by simp [IntKind.bits]; omega, u64_wrap, Int.emod_eq_of_lt (by omega) (by omega)]
  have hhi : hi * 2 ^ s + 2 ^ s ≤ y * 2 ^ s := by
    have := Int.mul_le_mul_of_nonneg_right (show hi + 1 ≤ y by omega) (Int.le_of_lt hP)
    rw [Int.add_mul] at this
    omega
  have hhi0 : 0 ≤ hi * 2 ^ s := Int.mul_nonneg h0 (Int.le_of_lt hP)
  have hS2 : shl .u64 hi s = hi * 2 ^ s := by
    unfold shl
    rw [show min (s : Int).toNat IntKind.u64.bits = s by simp [IntKind.bits]; omega, u64_wrap, Int.emod_eq_of_lt (by omega) (by omega)]
  have hT : IntKind.u64.wrap (64 - (s : Int)) = ((64 - s : Nat) : Int) := by rw [u64_wrap]; omega
  have hS3 : shr .u64 lo ((64 - s : Nat) : Int) = lo / 2 ^ (64 - s) := by
    unfold shr
    rw [show min ((64 - s : Nat) : Int).toNat IntKind.u64.bits = 64 - s by simp [IntKind.bits]]
  have ha := Int.mul_ediv_add_emod lo (2 ^ (64 - s))
  have hb0 := Int.emod_nonneg lo (Int.ne_of_gt hR)
  have hb1 := Int.emod_lt_of_pos lo hR
  have ha0 : 0 ≤ lo / 2 ^ (64 - s) := Int.ediv_nonneg hl0 (Int.le_of_lt hR)
  have ha1 : lo / 2 ^ (64 - s) < 2 ^ s := Int.ediv_lt_of_lt_mul hR (by rw [Int.mul_comm, hPR]; exact hl1)
  have hL : lo * 2 ^ s = lo / 2 ^ (64 - s) * 18446744073709551616 + lo % 2 ^ (64 - s) * 2 ^ s := by
    have e : (2 ^ (64 - s) * (lo / 2 ^ (64 - s)) + lo % 2 ^ (64 - s)) * 2 ^ s = lo * 2 ^ s := by rw [ha]
    rw [Int.add_mul, Int.mul_comm (2 ^ (64 - s)) (lo / _), Int.mul_assoc, hPR] at e
    exact e.symm
  have hbP0 : 0 ≤ lo % 2 ^ (64 - s) * 2 ^ s := Int.mul_nonneg hb0 (Int.le_of_lt hP)
  have hbP1 : lo % 2 ^ (64 - s) * 2 ^ s < 18446744073709551616 := by
    rw [← hPR]
    exact Int.mul_lt_mul_of_pos_right hb1 hP
  have hS4 : shl .u64 lo s = lo % 2 ^ (64 - s) * 2 ^ s := by
    unfold shl
    rw [show min (s : Int).toNat IntKind.u64.bits = s by simp [IntKind.bits]; omega, u64_wrap, hL]
    omega
  have hor : Go.bits .or .u64 (hi * 2 ^ s) (lo / 2 ^ (64 - s)) = hi * 2 ^ s + lo / 2 ^ (64 - s) := by
    refine bits_join .u64 64 (by decide) wraps_u64 s _ _ hhi0 (Int.mul_emod_left _ _) (by omega) ha0 ha1 (by omega)
  have hN : (hi * 18446744073709551616 + lo) * 2 ^ s = (hi * 2 ^ s + lo / 2 ^ (64 - s)) * 18446744073709551616 + lo % 2 ^ (64 - s) * 2 ^ s := by
    rw [Int.add_mul, hL, Int.mul_assoc, Int.mul_comm 18446744073709551616 (2 ^ s), ← Int.mul_assoc, Int.add_mul]
    omega
  have hz : (y * 2 ^ s) / 4294967296 ≠ 0 := by omega
  have hres : ∀ D U L : Int, D = y * 2 ^ s → U = hi * 2 ^ s + lo / 2 ^ (64 - s) → L = lo % 2 ^ (64 - s) * 2 ^ s →
      Ev (fun k => bits_Div64.l0 k D s (D / 4294967296) (D % 4294967296) U (L / 4294967296) (L % 4294967296) (U / (D / 4294967296)) (U - U / (D / 4294967296) * (D / 4294967296)))
        ((hi * 18446744073709551616 + lo) / y, (hi * 18446744073709551616 + lo) % y) := by
    intro D U L eD eU eL
    rw [← eU, ← eL] at hN
    have hU0 : 0 ≤ U := by omega
    have hUD : U < D := by omega
    have hD : D = D / 4294967296 * 4294967296 + D % 4294967296 := by omega
    have hDB : D < 18446744073709551616 := by omega
    have hDp : 0 < D := by omega
    have hr0 := Int.emod_nonneg U (show D / 4294967296 ≠ 0 by omega)
    have hr1 := Int.emod_lt_of_pos U (show 0 < D / 4294967296 by omega)
    have hre := Int.ediv_mul_add_emod U (D / 4294967296)
    have hf := digit_first (u := L / 4294967296) hD (by omega) (by omega) (by omega) hU0 hUD (by omega) (by omega)
    refine loop0 hD (by omega) (by omega) (by omega) (by omega) hU0 hUD (by omega) (by omega) s (L % 4294967296) _ ?_ ((U / (D / 4294967296) - (U * 4294967296 + L / 4294967296) / D).toNat) _ _ (by omega) (by omega) (by omega) hf.1 hf.2 (by omega)
    have hm1 := Int.ediv_mul_add_emod (U * 4294967296 + L / 4294967296) D
    have hm2 := Int.emod_nonneg (U * 4294967296 + L / 4294967296) (show D ≠ 0 by omega)
    have hm3 := Int.emod_lt_of_pos (U * 4294967296 + L / 4294967296) hDp
    have hq1 := digit_top hDp hUD (show L / 4294967296 < 4294967296 by omega)
    have hq0 : 0 ≤ (U * 4294967296 + L / 4294967296) / D := Int.ediv_nonneg (by omega) (by omega)
    generalize (U * 4294967296 + L / 4294967296) / D = Q1 at *
    generalize hR1 : (U * 4294967296 + L / 4294967296) % D = R1 at *
    have hw : IntKind.u64.wrap (IntKind.u64.wrap (IntKind.u64.wrap (U * 4294967296) + L / 4294967296) - IntKind.u64.wrap (Q1 * D)) = R1 := by
      rw [u64_wrap, u64_wrap, u64_wrap, u64_wrap]
      omega
    have hR1a := Int.emod_nonneg R1 (show D / 4294967296 ≠ 0 by omega)
    have hR1b := Int.emod_lt_of_pos R1 (show 0 < D / 4294967296 by omega)
    have hR1c := Int.ediv_mul_add_emod R1 (D / 4294967296)
    have hd1 : IntKind.u64.wrap (Int.tdiv R1 (D / 4294967296)) = R1 / (D / 4294967296) := by
      rw [Int.tdiv_eq_ediv_of_nonneg hm2]
      refine wraps_u64 _ (Int.ediv_nonneg hm2 (by omega)) ?_
      have := Int.ediv_le_self (a := R1) (D / 4294967296) hm2
      omega
    have hf2 := digit_first (u := L % 4294967296) hD (by omega) (by omega) (by omega) hm2 hm3 (by omega) (by omega)
    refine Ev.step (f := fun k => bits_Div64.l1 k D s (D / 4294967296) (D % 4294967296) (L % 4294967296) Q1 (R1 - R1 / (D / 4294967296) * (D / 4294967296)) R1 (R1 / (D / 4294967296))) ?_ ?_
    · intro k
      simp only [bits_Div64.j2]
      rw [if_neg (by omega), hw, hd1]
      congr 1
      have hmul : R1 / (D / 4294967296) * (D / 4294967296) ≤ R1 := by omega
      have hmul0 : 0 ≤ R1 / (D / 4294967296) * (D / 4294967296) := Int.mul_nonneg (Int.ediv_nonneg hm2 (by omega)) (by omega)
      generalize R1 / (D / 4294967296) * (D / 4294967296) = Z at *
      rw [u64_wrap, u64_wrap]
      omega
    · have hl := loop1 hD (by omega) (by omega) (by omega) (by omega) hm2 hm3 (show 0 ≤ L % 4294967296 by omega) (by omega) s Q1 (by omega) ((R1 / (D / 4294967296) - (R1 * 4294967296 + L % 4294967296) / D).toNat) (R1 / (D / 4294967296)) (R1 - R1 / (D / 4294967296) * (D / 4294967296)) (by omega) (by omega) (by omega) hf2.1 hf2.2 (by omega)
      have hn1 := Int.ediv_mul_add_emod (R1 * 4294967296 + L % 4294967296) D
      have hn2 := Int.emod_nonneg (R1 * 4294967296 + L % 4294967296) (show D ≠ 0 by omega)
      have hn3 := Int.emod_lt_of_pos (R1 * 4294967296 + L % 4294967296) hDp
      have hp1 := digit_top hDp hm3 (show L % 4294967296 < 4294967296 by omega)
      have hp0 : 0 ≤ (R1 * 4294967296 + L % 4294967296) / D := Int.ediv_nonneg (by omega) (by omega)
      generalize (R1 * 4294967296 + L % 4294967296) / D = Q0 at *
      generalize (R1 * 4294967296 + L % 4294967296) % D = R0 at *
      have hw2 : IntKind.u64.wrap (IntKind.u64.wrap (IntKind.u64.wrap (R1 * 4294967296) + L % 4294967296) - IntKind.u64.wrap (Q0 * D)) = R0 := by
        rw [u64_wrap, u64_wrap, u64_wrap, u64_wrap]
        omega
      have hw3 : IntKind.u64.wrap (IntKind.u64.wrap (Q1 * 4294967296) + Q0) = Q1 * 4294967296 + Q0 := by
        rw [u64_wrap, u64_wrap]
        omega
      rw [hw2, hw3] at hl
      have hsr : shr .u64 R0 s = R0 / 2 ^ s := by
        unfold shr
        rw [show min (s : Int).toNat IntKind.u64.bits = s by simp [IntKind.bits]; omega]
      rw [hsr] at hl
      have hfin : (hi * 18446744073709551616 + lo) * 2 ^ s = (Q1 * 4294967296 + Q0) * D + R0 := by
        have e : (Q1 * 4294967296 + Q0) * D = Q1 * D * 4294967296 + Q0 * D := by
          rw [Int.add_mul, Int.mul_assoc Q1, Int.mul_comm 4294967296 D, ← Int.mul_assoc]
        rw [hN, e]
        omega
      have hdm := Int.ediv_mul_add_emod (hi * 18446744073709551616 + lo) y
      have hdm0 := Int.emod_nonneg (hi * 18446744073709551616 + lo) (show y ≠ 0 by omega)
      have hdm1 := Int.emod_lt_of_pos (hi * 18446744073709551616 + lo) (show 0 < y by omega)
      generalize hi * 18446744073709551616 + lo = N at *
      -- both divide N * 2^s by D
      have e1 : (N / y) * D + (N % y) * 2 ^ s = (Q1 * 4294967296 + Q0) * D + R0 := by
        rw [← hfin, eD, ← Int.mul_assoc, ← Int.add_mul, hdm]
      have hx0 : 0 ≤ (N % y) * 2 ^ s := Int.mul_nonneg hdm0 (Int.le_of_lt hP)
      have hx1 : (N % y) * 2 ^ s < D := by rw [eD]; exact Int.mul_lt_mul_of_pos_right hdm1 hP
      have f1 : ((N / y) * D + (N % y) * 2 ^ s) / D = N / y := by
        rw [Int.add_comm, Int.add_mul_ediv_right _ _ (Int.ne_of_gt hDp), Int.ediv_eq_zero_of_lt hx0 hx1, Int.zero_add]
      have f2 : ((Q1 * 4294967296 + Q0) * D + R0) / D = Q1 * 4294967296 + Q0 := by
        rw [Int.add_comm, Int.add_mul_ediv_right _ _ (Int.ne_of_gt hDp), Int.ediv_eq_zero_of_lt hn2 hn3, Int.zero_add]
      have f3 : N / y = Q1 * 4294967296 + Q0 := by rw [← f1, e1, f2]
      rw [f3] at e1
      have f4 : R0 = (N % y) * 2 ^ s := by omega
      rw [f3, show N % y = R0 / 2 ^ s by rw [f4, Int.mul_ediv_cancel _ (Int.ne_of_gt hP)]]
      exact hl
  have hgo := hres _ _ _ rfl rfl rfl
  refine Ev.congr (f := fun k => bits_Div64.l0 k (y * 2 ^ s) s (y * 2 ^ s / 4294967296) (y * 2 ^ s % 4294967296) (hi * 2 ^ s + lo / 2 ^ (64 - s)) (lo % 2 ^ (64 - s) * 2 ^ s / 4294967296) (lo % 2 ^ (64 - s) * 2 ^ s % 4294967296) ((hi * 2 ^ s + lo / 2 ^ (64 - s)) / (y * 2 ^ s / 4294967296)) (hi * 2 ^ s + lo / 2 ^ (64 - s) - (hi * 2 ^ s + lo / 2 ^ (64 - s)) / (y * 2 ^ s / 4294967296) * (y * 2 ^ s / 4294967296))) ?_ hgo
  intro k
  unfold bits_Div64.f
  rw [if_neg (by omega), if_neg (by omega), if_neg hne, hlz]
  simp only [Option.bind_some]
  have hws : IntKind.u64.wrap (s : Int) = s := by rw [u64_wrap]; omega
  rw [hws, if_pos (by omega), hT, if_pos (by omega), hS, if_neg hz, hS2, hS3, hor, hS4]
  generalize eU : hi * 2 ^ s + lo / 2 ^ (64 - s) = U
  generalize eL : lo % 2 ^ (64 - s) * 2 ^ s = L at *
  generalize eD : y * 2 ^ s = D at *
  rw [mask32 _ (by omega) (by omega), mask32 _ (by omega) (by omega)]
  have hU0 : 0 ≤ U := by omega
  have hq0 : 0 ≤ U / (D / 4294967296) := Int.ediv_nonneg hU0 (by omega)
  have hq1 := Int.ediv_le_self (a := U) (D / 4294967296) hU0
  have hc := Int.ediv_mul_add_emod U (D / 4294967296)
  have hr0 := Int.emod_nonneg U (show D / 4294967296 ≠ 0 by omega)
  have hz0 : 0 ≤ U / (D / 4294967296) * (D / 4294967296) := Int.mul_nonneg hq0 (by omega)
  have hd1 : IntKind.u64.wrap (Int.tdiv U (D / 4294967296)) = U / (D / 4294967296) := by
    rw [Int.tdiv_eq_ediv_of_nonneg hU0]
    exact wraps_u64 _ hq0 (by omega)
  rw [hd1]
  congr 1
  generalize U / (D / 4294967296) * (D / 4294967296) = Z at *
  rw [u64_wrap, u64_wrap]
  omega

theorem div64 (hi lo y : Int) (h0 : 0 ≤ hi) (h1 : hi < y) (hy : y < 18446744073709551616) (hl0 : 0 ≤ lo) (hl1 : lo < 18446744073709551616) :
    Ev (fun k => bits_Div64.f k hi lo y) ((hi * 18446744073709551616 + lo) / y, (hi * 18446744073709551616 + lo) % y) := by
  by_cases hne : hi = 0
  · refine ⟨0, fun k _ => ?_⟩
    subst hne
    show bits_Div64.f k 0 lo y = _
    unfold bits_Div64.f
    rw [if_neg (by omega), if_neg (by omega), if_pos rfl, Int.zero_mul, Int.zero_add, Int.tdiv_eq_ediv_of_nonneg hl0, Int.tmod_eq_emod_of_nonneg hl0]
    have := Int.ediv_le_self (a := lo) y hl0
    rw [wraps_u64 _ (Int.ediv_nonneg hl0 (by omega)) (by omega)]
  · exact div64_one hi lo y h0 h1 hy hl0 hl1 hne
end Go.Proofs.Ytmjncjaalleblaa.PQ
