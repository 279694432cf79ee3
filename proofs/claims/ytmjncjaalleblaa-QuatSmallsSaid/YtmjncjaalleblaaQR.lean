import Derived.Test.YtmjncjaalleblaaQS
/- Layer 4: the norm 1, in numbers. -/
namespace Go.Proofs.Ytmjncjaalleblaa.PQ
open Go.RowKit
set_option linter.unusedVariables false
set_option linter.unusedSimpArgs false
theorem sgB (h l : Int) (s : Bool) : InR (sg h l s).1 := by
  have h : ∀ (x : Int) (b : Bool), InR ((cl x, b) : Int × Bool).1 := fun x _ => ⟨cl_lo x, cl_hi x⟩
  unfold sg
  repeat' split
  all_goals exact h _ _
theorem dvsB (a b : Int) : InR (dvs a b).1 := by
  unfold dvs
  repeat' split
  all_goals first | exact sgB _ _ _ | (simp [InR]; done)
theorem right_of {a b c d : Int} (ha : InR a) (hb : InR b) (hc : InR c) (hd : InR d) : rightN (at4 a b c d) 4 = true := by
  have e : rightN (at4 a b c d) 4 = ((((true && inB a) && inB b) && inB c) && inB d) := rfl
  rw [e]
  unfold InR at *
  simp [inB]
  omega
theorem sz_sq {x B : Int} (hB : 0 ≤ B) (h0 : -B ≤ x) (h1 : x ≤ B) : sz x * sz x ≤ B * B := by
  have : 0 ≤ sz x ∧ sz x ≤ B := by unfold sz; split <;> omega
  exact Int.mul_le_mul this.2 this.2 this.1 hB
/-- a norm is the exact one, but for two steps -/
theorem norm_near {a b c d : Int} (ha : -8589934592 ≤ a ∧ a ≤ 8589934592) (hb : -8589934592 ≤ b ∧ b ≤ 8589934592) (hc : -8589934592 ≤ c ∧ c ≤ 8589934592) (hd : -8589934592 ≤ d ∧ d ≤ 8589934592) :
    normO (at4 a b c d) = false ∧ a * a + b * b + c * c + d * d - 33554432 ≤ normV (at4 a b c d) * 16777216 ∧ normV (at4 a b c d) * 16777216 ≤ a * a + b * b + c * c + d * d + 33554432 ∧ normV (at4 a b c d) ≤ 70368744177663 := by
  have S : ∀ x, -8589934592 ≤ x ∧ x ≤ 8589934592 → sz x * sz x ≤ 73786976294838206464 := fun x hx => sz_sq (B := 8589934592) (by decide) hx.1 hx.2
  have I : ∀ x : Int, -8589934592 ≤ x ∧ x ≤ 8589934592 → InR x := fun x hx => by unfold InR; omega
  have na := mul_near (I a ha) (I a ha) (S a ha)
  have nb := mul_near (I b hb) (I b hb) (S b hb)
  have nc := mul_near (I c hc) (I c hc) (S c hc)
  have nd := mul_near (I d hd) (I d hd) (S d hd)
  have e : normV (at4 a b c d) = sumV (at3 (mulV b b) (mulV c c) (mulV d d)) (mulV a a) 3 := rfl
  have o : normO (at4 a b c d) = sumO (at3 (mulV b b) (mulV c c) (mulV d d)) (((((false || mulO a a) || mulO b b) || mulO c c)) || mulO d d) (mulV a a) 3 := rfl
  rw [na.1, nb.1, nc.1, nd.1] at o
  generalize mulV a a = x0 at *
  generalize mulV b b = x1 at *
  generalize mulV c c = x2 at *
  generalize mulV d d = x3 at *
  have s := sum_exact (x0 := x0) (x1 := x1) (x2 := x2) (x3 := x3) (by unfold InR; omega) (by unfold InR; omega) (by unfold InR; omega) (by unfold InR; omega) (by unfold InR; omega) (by unfold InR; omega) (by unfold InR; omega)
  rw [e, o, s.1, s.2]
  generalize a * a = A at *
  generalize b * b = B at *
  generalize c * c = C at *
  generalize d * d = D at *
  exact ⟨rfl, by omega, by omega, by omega⟩
abbrev UnitTo (a b c d u0 u1 u2 u3 : Int) (f : Bool) : Prop := ∀ w, Calls Try.prog 17 #[.agg #[.int .i64 a, .int .i64 b, .int .i64 c, .int .i64 d]] w fun e w' =>
      e = .returned (.tuple #[.agg #[.int .i64 u0, .int .i64 u1, .int .i64 u2, .int .i64 u3], .bool f]) ∧ Below w.heap.size w w'
theorem unit_pure (a b c d : Int) : ∃ u0 u1 u2 u3 f, UnitTo a b c d u0 u1 u2 u3 f ∧ rightN (at4 u0 u1 u2 u3) 4 = true ∧
    ((-8589934592 ≤ a ∧ a ≤ 8589934592) → (-8589934592 ≤ b ∧ b ≤ 8589934592) → (-8589934592 ≤ c ∧ c ≤ 8589934592) → (-8589934592 ≤ d ∧ d ≤ 8589934592) →
      ((4194304 ≤ a ∨ a ≤ -4194304) ∨ (4194304 ≤ b ∨ b ≤ -4194304) ∨ (4194304 ≤ c ∨ c ≤ -4194304) ∨ (4194304 ≤ d ∨ d ≤ -4194304)) →
      f = false ∧ 16776960 ≤ normV (at4 u0 u1 u2 u3) ∧ normV (at4 u0 u1 u2 u3) ≤ 16777472) := by
  obtain ⟨R, so, hS, hRI, hRs⟩ := root_any (normV (at4 a b c d))
  by_cases hR : R = 0
  · subst hR
    refine ⟨16777216, 0, 0, 0, true, fun w => unit_zero (at4 a b c d) _ _ so (norm_to a b c d) hS w, by decide +kernel, fun ha hb hc hd hs => ?_⟩
    obtain ⟨ho, h0, h1, h2⟩ := norm_near ha hb hc hd
    have sq : ∀ x : Int, 0 ≤ x * x := fun x => by
      rcases Int.lt_or_le x 0 with h | h
      · have := Int.mul_nonneg (show 0 ≤ -x by omega) (show 0 ≤ -x by omega); rwa [Int.neg_mul_neg] at this
      · exact Int.mul_nonneg h h
    have big : ∀ x : Int, (4194304 ≤ x ∨ x ≤ -4194304) → 17592186044416 ≤ x * x := fun x hx => by
      rcases hx with hx | hx
      · exact sq_le_sq (x := x) (y := 4194304) (by decide) hx
      · have := sq_le_sq (x := -x) (y := 4194304) (by decide) (by omega); rwa [Int.neg_mul_neg] at this
    have s0 := sq a; have s1 := sq b; have s2 := sq c; have s3 := sq d
    have hbig : 17592186044416 ≤ a * a + b * b + c * c + d * d := by
      rcases hs with h | h | h | h
      · have := big a h; omega
      · have := big b h; omega
      · have := big c h; omega
      · have := big d h; omega
    have := hRs (by omega) h2
    omega
  · refine ⟨divV a R, divV b R, divV c R, divV d R, _, fun w => unit_walk (at4 a b c d) (fun k => divV (at4 a b c d k) R) (fun k => divO (at4 a b c d k) R) _ R _ so (norm_to a b c d) hS hR (fun k _ w => div_calls _ _ w) w,
      right_of (dvsB _ _) (dvsB _ _) (dvsB _ _) (dvsB _ _), fun ha hb hc hd hs => ?_⟩
    obtain ⟨ho, h0, h1, h2⟩ := norm_near ha hb hc hd
    have sq : ∀ x : Int, 0 ≤ x * x := fun x => by
      rcases Int.lt_or_le x 0 with h | h
      · have := Int.mul_nonneg (show 0 ≤ -x by omega) (show 0 ≤ -x by omega); rwa [Int.neg_mul_neg] at this
      · exact Int.mul_nonneg h h
    have big : ∀ x : Int, (4194304 ≤ x ∨ x ≤ -4194304) → 17592186044416 ≤ x * x := fun x hx => by
      rcases hx with hx | hx
      · exact sq_le_sq (x := x) (y := 4194304) (by decide) hx
      · have := sq_le_sq (x := -x) (y := 4194304) (by decide) (by omega); rwa [Int.neg_mul_neg] at this
    have s0 := sq a; have s1 := sq b; have s2 := sq c; have s3 := sq d
    have hbig : 17592186044416 ≤ a * a + b * b + c * c + d * d := by
      rcases hs with h | h | h | h
      · have := big a h; omega
      · have := big b h; omega
      · have := big c h; omega
      · have := big d h; omega
    obtain ⟨r0, r1, r2, r3, r4⟩ := hRs (by omega) h2
    have hRb : 4194296 ≤ R := by
      rcases Int.lt_or_le R 4194296 with hl | hl
      · have := sq_le_sq (x := 4194296) (y := R + 1) (by omega) (by omega)
        omega
      · exact hl
    have e1 : (R + 1) * (R + 1) = R * R + 2 * R + 1 := by grind
    have e6 : (R + 6) * (R + 6) = R * R + 12 * R + 36 := by grind
    have b0 := abs_of_sq (a := a) (R := R) (K := 6) (by omega) (by omega) (by omega)
    have b1 := abs_of_sq (a := b) (R := R) (K := 6) (by omega) (by omega) (by omega)
    have b2 := abs_of_sq (a := c) (R := R) (K := 6) (by omega) (by omega) (by omega)
    have b3 := abs_of_sq (a := d) (R := R) (K := 6) (by omega) (by omega) (by omega)
    have d0 := div_near hRb r1 b0.1 b0.2
    have d1 := div_near hRb r1 b1.1 b1.2
    have d2 := div_near hRb r1 b2.1 b2.2
    have d3 := div_near hRb r1 b3.1 b3.2
    have hm := norm_near (a := divV a R) (b := divV b R) (c := divV c R) (d := divV d R) (by omega) (by omega) (by omega) (by omega)
    refine ⟨?_, units_core h0 h1 hRb r2 r3 ⟨d0.2.1, d0.2.2.1⟩ ⟨d1.2.1, d1.2.2.1⟩ ⟨d2.2.1, d2.2.2.1⟩ ⟨d3.2.1, d3.2.2.1⟩ hm.2.1 hm.2.2.1⟩
    show ((((((false || normO (at4 a b c d)) || so) || divO a R) || divO b R) || divO c R) || divO d R) = false
    rw [ho, r4, d0.1, d1.1, d2.1, d3.1]
    rfl
end Go.Proofs.Ytmjncjaalleblaa.PQ
