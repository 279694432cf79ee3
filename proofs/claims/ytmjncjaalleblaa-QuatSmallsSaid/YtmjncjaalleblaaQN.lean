import Derived.Test.YtmjncjaalleblaaQW
import Derived.Test.YtmjncjaalleblaaQV
/- Layer 4: products and quotients, but for half a step. -/
namespace Go.Proofs.Ytmjncjaalleblaa.PQ
set_option linter.unusedVariables false
set_option linter.unusedSimpArgs false
theorem near_l {X : Int} (h0 : 0 ≤ X) (h1 : X ≤ 73786976294838206464) : 0 ≤ lw X ∧ lw X ≤ 4398046511104 ∧ lw X * 16777216 - X ≤ 8388608 ∧ -8388608 ≤ lw X * 16777216 - X := by
  unfold lw
  simp only []
  repeat' split
  all_goals omega
theorem sg_small {l : Int} {s : Bool} (h0 : 0 ≤ l) (h1 : l ≤ 4398046511104) : sg 0 l s = (if s = true then -l else l, false) := by
  unfold sg
  rw [if_pos rfl, if_neg (by omega)]
  cases s
  · simp only [Bool.false_eq_true, if_false]
    rw [cl_in (by omega) (by omega), od_in (by omega) (by omega)]
  · simp only [if_true]
    rw [cl_in (by omega) (by omega), od_in (by omega) (by omega)]
theorem near_r {N y : Int} (h0 : 0 ≤ N) (h1 : N ≤ 1152921504606846976) (hy : 0 < y) : 0 ≤ rn N y ∧ rn N y ≤ N / y + 1 ∧ (N - rn N y * y) * 2 ≤ y ∧ -y ≤ (N - rn N y * y) * 2 := by
  have e := Int.ediv_mul_add_emod N y
  have r0 := Int.emod_nonneg N (show y ≠ 0 by omega)
  have r1 := Int.emod_lt_of_pos N hy
  have q0 : 0 ≤ N / y := Int.ediv_nonneg h0 (by omega)
  have q1 := Int.ediv_le_self (a := N) y h0
  have hw : (N / y + 1) % 18446744073709551616 = N / y + 1 := by omega
  unfold rn
  rw [hw]
  have hm : (N / y + 1) * y = N / y * y + y := by rw [Int.add_mul]; omega
  repeat' split
  all_goals (try rw [hm])
  all_goals omega
theorem mul_sign (a b : Int) : sz a * sz b = if ((decide (a < 0)) != (decide (b < 0))) = true then -(a * b) else a * b := by
  unfold sz
  by_cases ha : a < 0 <;> by_cases hb : b < 0 <;> simp [ha, hb, Int.neg_mul, Int.mul_neg]
/-- a product in bounds is the exact one, but for half a step -/
theorem mul_near {a b : Int} (ha : InR a) (hb : InR b) (h : sz a * sz b ≤ 73786976294838206464) :
    mulO a b = false ∧ -8388608 ≤ mulV a b * 16777216 - a * b ∧ mulV a b * 16777216 - a * b ≤ 8388608 ∧ -4398046511104 ≤ mulV a b ∧ mulV a b ≤ 4398046511104 := by
  have h0 : 0 ≤ sz a * sz b := Int.mul_nonneg (sz_0 a) (sz_0 b)
  have hn := near_l h0 h
  have hms := mul_sign a b
  have e : mulR a b = (if ((decide (a < 0)) != (decide (b < 0))) = true then -lw (sz a * sz b) else lw (sz a * sz b), false) := by
    unfold mulR
    rw [cl_in ha.1 ha.2, cl_in hb.1 hb.2, od_in ha.1 ha.2, od_in hb.1 hb.2, show sz a * sz b / 309485009821345068724781056 = 0 by omega, sg_small hn.1 hn.2.1]
    rfl
  unfold mulO mulV
  rw [e]
  generalize lw (sz a * sz b) = L at *
  generalize sz a * sz b = X at *
  generalize a * b = Y at *
  refine ⟨rfl, ?_⟩
  by_cases hs : ((decide (a < 0)) != (decide (b < 0))) = true
  · rw [if_pos hs] at hms
    rw [if_pos hs]
    dsimp only
    omega
  · rw [if_neg hs] at hms
    rw [if_neg hs]
    dsimp only
    omega
/-- a quotient that is near 1 -/
theorem div_near {a R : Int} (hR : 4194296 ≤ R) (hR1 : R ≤ 34359738368) (ha : -(R + 6) < a) (ha' : a < R + 6) :
    divO a R = false ∧ -R ≤ 2 * (divV a R * R - a * 16777216) ∧ 2 * (divV a R * R - a * 16777216) ≤ R ∧ -33554432 ≤ divV a R ∧ divV a R ≤ 33554432 := by
  have hca : cl a = a := cl_in (by omega) (by omega)
  have hcb : cl R = R := cl_in (by omega) (by omega)
  have hoa : od a = false := od_in (by omega) (by omega)
  have hob : od R = false := od_in (by omega) (by omega)
  have sR : sz R = R := by unfold sz; rw [if_neg (by omega)]
  have sa : 0 ≤ sz a ∧ sz a < R + 6 := by unfold sz; split <;> omega
  have hn := near_r (N := sz a * 16777216) (y := R) (by omega) (by omega) (by omega)
  have hq : sz a * 16777216 / R ≤ 33554431 := by
    have : sz a * 16777216 < (33554432 : Int) * R := by omega
    have := Int.ediv_lt_of_lt_mul (a := sz a * 16777216) (b := 33554432) (c := R) (by omega) this
    omega
  have e : dvs a R = (if ((decide (a < 0)) != (decide (R < 0))) = true then -rn (sz a * 16777216) R else rn (sz a * 16777216) R, false) := by
    unfold dvs
    rw [hca, hcb, hoa, hob, if_neg (by omega), sR, if_neg (by omega), sg_small hn.1 (by omega)]
    rfl
  unfold divO divV
  rw [e]
  refine ⟨rfl, ?_⟩
  have hRs : decide (R < 0) = false := decide_eq_false (by omega)
  rw [hRs]
  generalize hr : rn (sz a * 16777216) R = r at *
  by_cases h : a < 0
  · have hsa : sz a = -a := by unfold sz; rw [if_pos h]
    rw [hsa] at hn hq
    have hs : ((decide (a < 0)) != false) = true := by simp [h]
    rw [if_pos hs]
    dsimp only
    rw [Int.neg_mul]
    omega
  · have hsa : sz a = a := by unfold sz; rw [if_neg h]
    rw [hsa] at hn hq
    have hs : ¬ ((decide (a < 0)) != false) = true := by simp [h]
    rw [if_neg hs]
    dsimp only
    omega
end Go.Proofs.Ytmjncjaalleblaa.PQ
