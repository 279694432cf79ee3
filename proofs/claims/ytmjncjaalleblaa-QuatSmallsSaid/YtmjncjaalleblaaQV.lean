import Derived.LoopTactic
/- Layer 4: how near to 1 the norm comes to lie. Numbers alone. -/
namespace Go.Proofs.Ytmjncjaalleblaa.PQ
set_option linter.unusedVariables false
theorem sq_le_sq {x y : Int} (h0 : 0 ≤ y) (h : y ≤ x) : y * y ≤ x * x := Int.mul_le_mul h h h0 (by omega)
theorem abs_of_sq {a R K : Int} (hR : 0 ≤ R) (hK : 0 ≤ K) (h : a * a < (R + K) * (R + K)) : -(R + K) < a ∧ a < R + K := by
  constructor
  · rcases Int.lt_or_le (-(R + K)) a with hl | hl
    · exact hl
    · have := sq_le_sq (x := -a) (y := R + K) (by omega) (by omega)
      rw [Int.neg_mul_neg] at this
      omega
  · rcases Int.lt_or_le a (R + K) with hl | hl
    · exact hl
    · have := sq_le_sq (x := a) (y := R + K) (by omega) (by omega)
      omega
/-- a product of two small numbers -/
theorem mul_abs {x y A B : Int} (hA : 0 ≤ A) (hx : -A ≤ x) (hx' : x ≤ A) (hy : -B ≤ y) (hy' : y ≤ B) : -(A * B) ≤ x * y ∧ x * y ≤ A * B := by
  have h := Nat.mul_le_mul (show x.natAbs ≤ A.natAbs by omega) (show y.natAbs ≤ B.natAbs by omega)
  rw [← Int.natAbs_mul, ← Int.natAbs_mul] at h
  have hB : 0 ≤ B := by omega
  have := Int.mul_nonneg hA hB
  omega
theorem root_big {n S R a : Int} (hn : S - 33554432 ≤ n * 16777216) (hS : a * a ≤ S) (ha : 4194304 ≤ a ∨ a ≤ -4194304) (hR : 0 ≤ R) (h : n * 16777216 < (R + 1) * (R + 1)) : 4194296 ≤ R := by
  rcases Int.lt_or_le R 4194296 with hl | hl
  · have h1 := sq_le_sq (x := 4194296) (y := R + 1) (by omega) (by omega)
    have h2 : (4194304 : Int) * 4194304 ≤ a * a := by
      rcases ha with ha | ha
      · exact sq_le_sq (by omega) ha
      · have := sq_le_sq (x := -a) (y := 4194304) (by omega) (by omega)
        rwa [Int.neg_mul_neg] at this
    omega
  · exact hl
/-- one part of a quotient's square -/
theorem part_sq {a u R : Int} (hR : 0 ≤ R) (ha : -(R + 6) < a ∧ a < R + 6) (hd : -R ≤ 2 * (u * R - a * 16777216) ∧ 2 * (u * R - a * 16777216) ≤ R) :
    ∃ E, u * u * (R * R) = a * a * 281474976710656 + E ∧ -(16777216 * ((R + 5) * R)) ≤ E ∧ 4 * E ≤ 4 * (16777216 * ((R + 5) * R)) + R * R := by
  have e : u * R = a * 16777216 + (u * R - a * 16777216) := by omega
  generalize hdd : u * R - a * 16777216 = d at *
  have h1 := mul_abs (x := a) (y := 2 * d) (A := R + 5) (B := R) (by omega) (by omega) (by omega) (by omega) (by omega)
  have h2 := mul_abs (x := 2 * d) (y := 2 * d) (A := R) (B := R) hR (by omega) (by omega) (by omega) (by omega)
  have h3 : 0 ≤ d * d := by
    rcases Int.lt_or_le d 0 with h | h
    · have := Int.mul_nonneg (show 0 ≤ -d by omega) (show 0 ≤ -d by omega); rwa [Int.neg_mul_neg] at this
    · exact Int.mul_nonneg h h
  refine ⟨16777216 * (a * (2 * d)) + d * d, ?_, ?_, ?_⟩
  · have : u * u * (R * R) = (u * R) * (u * R) := by grind
    rw [this, e]; grind
  · omega
  · have : 2 * d * (2 * d) = 4 * (d * d) := by grind
    omega
theorem units_core {a0 a1 a2 a3 n R u0 u1 u2 u3 m : Int} (hn0 : a0 * a0 + a1 * a1 + a2 * a2 + a3 * a3 - 33554432 ≤ n * 16777216) (hn1 : n * 16777216 ≤ a0 * a0 + a1 * a1 + a2 * a2 + a3 * a3 + 33554432)
    (hR : 4194296 ≤ R) (hR0 : R * R ≤ n * 16777216) (hR1 : n * 16777216 < (R + 1) * (R + 1))
    (h0 : -R ≤ 2 * (u0 * R - a0 * 16777216) ∧ 2 * (u0 * R - a0 * 16777216) ≤ R) (h1 : -R ≤ 2 * (u1 * R - a1 * 16777216) ∧ 2 * (u1 * R - a1 * 16777216) ≤ R)
    (h2 : -R ≤ 2 * (u2 * R - a2 * 16777216) ∧ 2 * (u2 * R - a2 * 16777216) ≤ R) (h3 : -R ≤ 2 * (u3 * R - a3 * 16777216) ∧ 2 * (u3 * R - a3 * 16777216) ≤ R)
    (hm0 : u0 * u0 + u1 * u1 + u2 * u2 + u3 * u3 - 33554432 ≤ m * 16777216) (hm1 : m * 16777216 ≤ u0 * u0 + u1 * u1 + u2 * u2 + u3 * u3 + 33554432) :
    16776960 ≤ m ∧ m ≤ 16777472 := by
  have s0 : 0 ≤ a0 * a0 := by have := mul_abs (x := a0) (y := a0) (A := 0) (B := 0); exact (by rcases Int.lt_or_le a0 0 with h | h; · { have := Int.mul_nonneg (show 0 ≤ -a0 by omega) (show 0 ≤ -a0 by omega); rwa [Int.neg_mul_neg] at this }; · exact Int.mul_nonneg h h)
  have sq : ∀ x : Int, 0 ≤ x * x := fun x => by
    rcases Int.lt_or_le x 0 with h | h
    · have := Int.mul_nonneg (show 0 ≤ -x by omega) (show 0 ≤ -x by omega); rwa [Int.neg_mul_neg] at this
    · exact Int.mul_nonneg h h
  have s1 := sq a1
  have s2 := sq a2
  have s3 := sq a3
  have e1 : (R + 1) * (R + 1) = R * R + 2 * R + 1 := by grind
  have e6 : (R + 6) * (R + 6) = R * R + 12 * R + 36 := by grind
  have b0 := abs_of_sq (a := a0) (R := R) (K := 6) (by omega) (by omega) (by omega)
  have b1 := abs_of_sq (a := a1) (R := R) (K := 6) (by omega) (by omega) (by omega)
  have b2 := abs_of_sq (a := a2) (R := R) (K := 6) (by omega) (by omega) (by omega)
  have b3 := abs_of_sq (a := a3) (R := R) (K := 6) (by omega) (by omega) (by omega)
  obtain ⟨E0, p0, l0, g0⟩ := part_sq (by omega) b0 h0
  obtain ⟨E1, p1, l1, g1⟩ := part_sq (by omega) b1 h1
  obtain ⟨E2, p2, l2, g2⟩ := part_sq (by omega) b2 h2
  obtain ⟨E3, p3, l3, g3⟩ := part_sq (by omega) b3 h3
  have eT : (u0 * u0 + u1 * u1 + u2 * u2 + u3 * u3) * (R * R) = (a0 * a0 + a1 * a1 + a2 * a2 + a3 * a3) * 281474976710656 + (E0 + E1 + E2 + E3) := by
    rw [Int.add_mul, Int.add_mul, Int.add_mul, p0, p1, p2, p3]; omega
  have e5 : (R + 5) * R = R * R + 5 * R := by grind
  rw [e5] at l0 g0 l1 g1 l2 g2 l3 g3
  have hP : 4194296 * R ≤ R * R := Int.mul_le_mul_of_nonneg_right hR (by omega)
  generalize u0 * u0 + u1 * u1 + u2 * u2 + u3 * u3 = T at *
  generalize a0 * a0 + a1 * a1 + a2 * a2 + a3 * a3 = S at *
  rw [e1] at hR1
  clear p0 p1 p2 p3 e1 e5 e6 b0 b1 b2 b3 h0 h1 h2 h3
  have hi : T ≤ 281474976710656 + 254 * 16777216 := by
    rcases Int.lt_or_le (281474976710656 + 254 * 16777216) T with h | h
    · have := Int.mul_le_mul_of_nonneg_right (show 281474976710656 + 254 * 16777216 ≤ T by omega) (sq R)
      rw [eT] at this
      generalize R * R = P at *
      omega
    · exact h
  have lo : 281474976710656 - 254 * 16777216 ≤ T := by
    rcases Int.lt_or_le T (281474976710656 - 254 * 16777216) with h | h
    · have := Int.mul_le_mul_of_nonneg_right (show T ≤ 281474976710656 - 254 * 16777216 by omega) (sq R)
      rw [eT] at this
      generalize R * R = P at *
      omega
    · exact h
  omega
end Go.Proofs.Ytmjncjaalleblaa.PQ
