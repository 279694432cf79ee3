import Derived.Test.YtmjncjaalleblaaQG
/- Layer 4: what is exact. No program in sight. -/
namespace Go.Proofs.Ytmjncjaalleblaa.PQ
set_option linter.unusedVariables false
set_option linter.unusedSimpArgs false
abbrev InR (z : Int) : Prop := -70368744177664 ≤ z ∧ z ≤ 70368744177663
theorem sg_exact (z : Int) (s : Bool) (hz : InR z) (hs : z ≠ 0 → s = decide (z < 0)) : sg 0 (sz z) s = (z, false) := by
  unfold sg
  rw [if_pos rfl]
  obtain ⟨h0, h1⟩ := hz
  have hb : ¬ sz z > 70368744177664 := by unfold sz; split <;> omega
  rw [if_neg hb]
  have e : (if s = true then -sz z else sz z) = z := by
    by_cases h : z = 0
    · subst h; cases s <;> rfl
    · rw [hs h]; unfold sz
      by_cases hn : z < 0
      · simp [hn]
      · simp [hn]
  rw [e, cl_in h0 h1, od_in h0 h1]
theorem sz_mul (a b : Int) : sz a * sz b = sz (a * b) := by
  unfold sz
  by_cases ha : a < 0
  · by_cases hb : b < 0
    · have : ¬ a * b < 0 := by have := Int.mul_pos_of_neg_of_neg ha hb; omega
      rw [if_pos ha, if_pos hb, if_neg this, Int.neg_mul_neg]
    · by_cases h0 : b = 0
      · subst h0; simp
      · have : a * b < 0 := Int.mul_neg_of_neg_of_pos ha (by omega)
        rw [if_pos ha, if_neg hb, if_pos this, Int.neg_mul]
  · by_cases hb : b < 0
    · by_cases h0 : a = 0
      · subst h0; simp
      · have : a * b < 0 := Int.mul_neg_of_pos_of_neg (by omega) hb
        rw [if_neg ha, if_pos hb, if_pos this, Int.mul_neg]
    · have : ¬ a * b < 0 := by have := Int.mul_nonneg (a := a) (b := b) (by omega) (by omega); omega
      rw [if_neg ha, if_neg hb, if_neg this]
theorem sign_mul (a b z : Int) (h : a * b = z * 16777216) (hz : z ≠ 0) : ((decide (a < 0)) != (decide (b < 0))) = decide (z < 0) := by
  have hab : a ≠ 0 ∧ b ≠ 0 := by constructor <;> (intro e; subst e; simp at h; omega)
  by_cases ha : a < 0
  · by_cases hb : b < 0
    · have := Int.mul_pos_of_neg_of_neg ha hb
      simp [ha, hb]; omega
    · have := Int.mul_neg_of_neg_of_pos ha (show (0:Int) < b by omega)
      simp [ha, hb]; omega
  · by_cases hb : b < 0
    · have := Int.mul_neg_of_pos_of_neg (show (0:Int) < a by omega) hb
      simp [ha, hb]; omega
    · have := Int.mul_pos (show (0:Int) < a by omega) (show (0:Int) < b by omega)
      simp [ha, hb]; omega
theorem mul_exact {a b z : Int} (ha : InR a) (hb : InR b) (hz : InR z) (h : a * b = z * 16777216) : mulR a b = (z, false) := by
  unfold mulR
  rw [cl_in ha.1 ha.2, cl_in hb.1 hb.2, od_in ha.1 ha.2, od_in hb.1 hb.2, sz_mul, h]
  have hsz : 0 ≤ sz z ∧ sz z ≤ 70368744177664 := by obtain ⟨h0, h1⟩ := hz; unfold sz; split <;> omega
  have e : sz (z * 16777216) = sz z * 16777216 := by unfold sz; split <;> split <;> omega
  rw [e, show sz z * 16777216 / 309485009821345068724781056 = 0 by omega, show lw (sz z * 16777216) = sz z by unfold lw; simp only []; rw [if_neg (by omega), if_neg (by omega)]; omega, sg_exact z _ hz (sign_mul a b z h)]
  rfl
theorem mulV_exact {a b z : Int} (ha : InR a) (hb : InR b) (hz : InR z) (h : a * b = z * 16777216) : mulV a b = z := by unfold mulV; rw [mul_exact ha hb hz h]
theorem mulO_exact {a b z : Int} (ha : InR a) (hb : InR b) (hz : InR z) (h : a * b = z * 16777216) : mulO a b = false := by unfold mulO; rw [mul_exact ha hb hz h]
theorem addV_exact {a b : Int} (ha : InR a) (hb : InR b) (hz : InR (a + b)) : addV a b = a + b := by unfold addV; rw [cl_in ha.1 ha.2, cl_in hb.1 hb.2, cl_in hz.1 hz.2]
theorem addO_exact {a b : Int} (ha : InR a) (hb : InR b) (hz : InR (a + b)) : addO a b = false := by unfold addO; rw [cl_in ha.1 ha.2, cl_in hb.1 hb.2, od_in hz.1 hz.2, od_in ha.1 ha.2, od_in hb.1 hb.2]; rfl
theorem neg_exact {a : Int} (ha : InR a) (hz : InR (-a)) : subV 0 a = -a ∧ subO 0 a = false := by
  have h0 : cl 0 = 0 := rfl
  have h1 : od 0 = false := rfl
  constructor
  · unfold subV; rw [h0, cl_in ha.1 ha.2, Int.zero_sub, cl_in hz.1 hz.2]
  · unfold subO; rw [h0, h1, cl_in ha.1 ha.2, od_in ha.1 ha.2, Int.zero_sub, od_in hz.1 hz.2]; rfl
/-- a term is exact -/
theorem trm_pos {p q : Nat → Int} {i j : Nat} {t : Int} (hp : InR (p i)) (hq : InR (q j)) (ht : InR t) (h : p i * q j = t * 16777216) : trm p q i j 1 = t ∧ ∀ f, trmO p q i j 1 f = f := by
  unfold trm trmO
  rw [if_neg (by decide), mulV_exact hp hq ht h, mulO_exact hp hq ht h]
  exact ⟨rfl, fun f => by rw [if_neg (by decide), Bool.or_false]⟩
theorem trm_neg {p q : Nat → Int} {i j : Nat} {t : Int} (hp : InR (p i)) (hq : InR (q j)) (ht : InR t) (hn : InR (-t)) (h : p i * q j = t * 16777216) : trm p q i j (-1) = -t ∧ ∀ f, trmO p q i j (-1) f = f := by
  unfold trm trmO
  rw [if_pos (by decide), mulV_exact hp hq ht h, mulO_exact hp hq ht h, (neg_exact ht hn).1, (neg_exact ht hn).2]
  exact ⟨rfl, fun f => by rw [if_pos (by decide), Bool.or_false, Bool.or_false]⟩
theorem sum_exact {x0 x1 x2 x3 : Int} (h0 : InR x0) (h1 : InR x1) (h2 : InR x2) (h3 : InR x3) (h01 : InR (x0 + x1)) (h02 : InR (x0 + x1 + x2)) (h03 : InR (x0 + x1 + x2 + x3)) :
    sumV (at3 x1 x2 x3) x0 3 = x0 + x1 + x2 + x3 ∧ ∀ f, sumO (at3 x1 x2 x3) f x0 3 = f := by
  have e1 : sumV (at3 x1 x2 x3) x0 1 = x0 + x1 := by show addV x0 x1 = _; exact addV_exact h0 h1 h01
  have e2 : sumV (at3 x1 x2 x3) x0 2 = x0 + x1 + x2 := by show addV (sumV (at3 x1 x2 x3) x0 1) x2 = _; rw [e1]; exact addV_exact h01 h2 h02
  refine ⟨?_, fun f => ?_⟩
  · show addV (sumV (at3 x1 x2 x3) x0 2) x3 = _
    rw [e2]; exact addV_exact h02 h3 h03
  · show (((f || addO x0 x1) || addO (sumV (at3 x1 x2 x3) x0 1) x2) || addO (sumV (at3 x1 x2 x3) x0 2) x3) = f
    rw [e1, e2, addO_exact h0 h1 h01, addO_exact h01 h2 h02, addO_exact h02 h3 h03, Bool.or_false, Bool.or_false, Bool.or_false]
/-- four terms, each with its sign, are in bounds, and so are their sums -/
structure Fits (x0 x1 x2 x3 : Int) : Prop where
  h0 : InR x0
  h1 : InR x1
  h2 : InR x2
  h3 : InR x3
  h01 : InR (x0 + x1)
  h02 : InR (x0 + x1 + x2)
  h03 : InR (x0 + x1 + x2 + x3)
theorem Fits.sum {x0 x1 x2 x3 : Int} (h : Fits x0 x1 x2 x3) : sumV (at3 x1 x2 x3) x0 3 = x0 + x1 + x2 + x3 ∧ ∀ f, sumO (at3 x1 x2 x3) f x0 3 = f := sum_exact h.h0 h.h1 h.h2 h.h3 h.h01 h.h02 h.h03
theorem InR.back {t : Int} (h : InR t) (h' : InR (-t)) : InR t := h
section
variable {p q : Nat → Int} {t : Nat → Nat → Int} (hp : ∀ k, k < 4 → InR (p k)) (hq : ∀ k, k < 4 → InR (q k)) (ht : ∀ i j, i < 4 → j < 4 → InR (t i j)) (e : ∀ i j, i < 4 → j < 4 → p i * q j = t i j * 16777216)
include hp hq ht e
theorem trm_p (i j : Nat) (hi : i < 4) (hj : j < 4) : trm p q i j 1 = t i j ∧ ∀ f, trmO p q i j 1 f = f := trm_pos (hp i hi) (hq j hj) (ht i j hi hj) (e i j hi hj)
theorem trm_n (i j : Nat) (hi : i < 4) (hj : j < 4) (hn : InR (-(t i j))) : trm p q i j (-1) = -(t i j) ∧ ∀ f, trmO p q i j (-1) f = f := trm_neg (hp i hi) (hq j hj) (ht i j hi hj) hn (e i j hi hj)
theorem comp_exact (f0 : Fits (t 0 0) (-(t 1 1)) (-(t 2 2)) (-(t 3 3))) (f1 : Fits (t 0 1) (t 1 0) (t 2 3) (-(t 3 2))) (f2 : Fits (t 0 2) (-(t 1 3)) (t 2 0) (t 3 1)) (f3 : Fits (t 0 3) (t 1 2) (-(t 2 1)) (t 3 0)) :
    comp p q 0 = t 0 0 + -(t 1 1) + -(t 2 2) + -(t 3 3) ∧ comp p q 1 = t 0 1 + t 1 0 + t 2 3 + -(t 3 2) ∧ comp p q 2 = t 0 2 + -(t 1 3) + t 2 0 + t 3 1 ∧ comp p q 3 = t 0 3 + t 1 2 + -(t 2 1) + t 3 0 ∧ flagK p q 4 = false := by
  have P := trm_p hp hq ht e
  have N := trm_n hp hq ht e
  have a00 := P 0 0 (by decide) (by decide)
  have a11 := N 1 1 (by decide) (by decide) f0.h1
  have a22 := N 2 2 (by decide) (by decide) f0.h2
  have a33 := N 3 3 (by decide) (by decide) f0.h3
  have a01 := P 0 1 (by decide) (by decide)
  have a10 := P 1 0 (by decide) (by decide)
  have a23 := P 2 3 (by decide) (by decide)
  have a32 := N 3 2 (by decide) (by decide) f1.h3
  have a02 := P 0 2 (by decide) (by decide)
  have a13 := N 1 3 (by decide) (by decide) f2.h1
  have a20 := P 2 0 (by decide) (by decide)
  have a31 := P 3 1 (by decide) (by decide)
  have a03 := P 0 3 (by decide) (by decide)
  have a12 := P 1 2 (by decide) (by decide)
  have a21 := N 2 1 (by decide) (by decide) f3.h2
  have a30 := P 3 0 (by decide) (by decide)
  have o0 : ∀ f, compO p q f 0 = f := fun f => by unfold compO; rw [a00.1, a11.1, a22.1, a33.1, f0.sum.2, a33.2, a22.2, a11.2, a00.2]; rfl
  have o1 : ∀ f, compO p q f 1 = f := fun f => by unfold compO; rw [a01.1, a10.1, a23.1, a32.1, f1.sum.2, a32.2, a23.2, a10.2, a01.2]; rfl
  have o2 : ∀ f, compO p q f 2 = f := fun f => by unfold compO; rw [a02.1, a13.1, a20.1, a31.1, f2.sum.2, a31.2, a20.2, a13.2, a02.2]; rfl
  have o3 : ∀ f, compO p q f 3 = f := fun f => by unfold compO; rw [a03.1, a12.1, a21.1, a30.1, f3.sum.2, a30.2, a21.2, a12.2, a03.2]; rfl
  refine ⟨?_, ?_, ?_, ?_, ?_⟩
  · unfold comp; rw [a00.1, a11.1, a22.1, a33.1, f0.sum.1]; rfl
  · unfold comp; rw [a01.1, a10.1, a23.1, a32.1, f1.sum.1]; rfl
  · unfold comp; rw [a02.1, a13.1, a20.1, a31.1, f2.sum.1]; rfl
  · unfold comp; rw [a03.1, a12.1, a21.1, a30.1, f3.sum.1]; rfl
  · show compO p q (compO p q (compO p q (compO p q false 0) 1) 2) 3 = false
    rw [o3, o2, o1, o0]
end
end Go.Proofs.Ytmjncjaalleblaa.PQ
