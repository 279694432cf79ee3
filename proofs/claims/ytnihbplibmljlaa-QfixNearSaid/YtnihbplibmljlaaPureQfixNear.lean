/- QfixNear: the product of two numbers of 32 bits is the exact one but for half a step, and a quotient times the divisor is the number but for half the divisor; for all int32 a and b. -/
import Derived.Test.YtnihbplibmljlaaPQx3
import Derived.Test.YtnihbplibmljlaaMathD
namespace Go.Proofs.Ytnihbplibmljlaa.Pure
open Go.RowKit Go.Proofs.Ytnihbplibmljlaa.PQ Go.Proofs.YtnihbplibmljlaaW.PrintWords Go.Proofs.YtnihbplibmljlaaW.PrintLast

theorem near_l {X : Int} (h0 : 0 ≤ X) (h1 : X ≤ 4611686018427387904) : 0 ≤ lw X ∧ lw X ≤ 274877906944 ∧ lw X * 16777216 - X ≤ 8388608 ∧ -8388608 ≤ lw X * 16777216 - X := by
  unfold lw
  simp only []
  repeat' split
  all_goals omega
theorem sg_small {l : Int} {s : Bool} (h0 : 0 ≤ l) (h1 : l ≤ 274877906944) : sg 0 l s = (if s = true then -l else l, false) := by
  unfold sg
  rw [if_pos rfl, if_neg (by omega)]
  cases s
  · simp only [Bool.false_eq_true, if_false]
    rw [cl_in (by omega) (by omega), od_in (by omega) (by omega)]
  · simp only [if_true]
    rw [cl_in (by omega) (by omega), od_in (by omega) (by omega)]
theorem near_r {N y : Int} (h0 : 0 ≤ N) (h1 : N ≤ 36028797018963968) (hy : 0 < y) : 0 ≤ rn N y ∧ rn N y ≤ 36028797018963969 ∧ (N - rn N y * y) * 2 ≤ y ∧ -y ≤ (N - rn N y * y) * 2 := by
  have e := Int.ediv_mul_add_emod N y
  have r0 := Int.emod_nonneg N (show y ≠ 0 by omega)
  have r1 := Int.emod_lt_of_pos N hy
  have q0 : 0 ≤ N / y := Int.ediv_nonneg h0 (by omega)
  have q1 := Int.ediv_le_self (a := N) y h0
  have hw : (N / y + 1) % 18446744073709551616 = N / y + 1 := by omega
  unfold rn
  rw [hw]
  have hm : (N / y + 1) * y = N / y * y + y := by rw [Int.add_mul]; omega
  repeat' split
  all_goals (try rw [hm])
  all_goals omega

theorem mul_sign (a b : Int) : sz a * sz b = if ((decide (a < 0)) != (decide (b < 0))) = true then -(a * b) else a * b := by
  unfold sz
  by_cases ha : a < 0 <;> by_cases hb : b < 0 <;> simp [ha, hb, Int.neg_mul, Int.mul_neg]
theorem sg_plain {l : Int} {s : Bool} (h : (sg 0 l s).2 = false) : (sg 0 l s).1 = if s = true then -l else l := by
  unfold sg at *
  rw [if_pos rfl] at *
  split at h
  · cases h
  · rw [if_neg (by assumption)]
    have := od_false h
    exact cl_in this.1 this.2
theorem sz_of {a : Int} (h0 : -2147483648 ≤ a) (h1 : a ≤ 2147483647) : 0 ≤ sz a ∧ sz a ≤ 2147483648 := by unfold sz; split <;> omega

theorem QfixNear : alidadelaw01_QfixNear.Pure := by
  intro a b ha hb
  have ha' : -2147483648 ≤ a ∧ a ≤ 2147483647 := by simpa [Lit.wf, IntKind.min, IntKind.max, IntKind.signed, IntKind.bits] using ha
  have hb' : -2147483648 ≤ b ∧ b ≤ 2147483647 := by simpa [Lit.wf, IntKind.min, IntKind.max, IntKind.signed, IntKind.bits] using hb
  obtain ⟨K1, hK1⟩ := shown_f
  obtain ⟨K2, hK2⟩ := div_f a b
  refine ⟨max K1 K2 + 1, ?_⟩
  have e1 : alidadelaw01_shown.f (max K1 K2 + 1) = some true := hK1 _ (by omega)
  have e2 : qfix_Div.f (max K1 K2) a b = some (dvs a b) := hK2 _ (by omega)
  have sa := sz_of ha'.1 ha'.2
  have sb := sz_of hb'.1 hb'.2
  have hca : cl a = a := cl_in (by omega) (by omega)
  have hcb : cl b = b := cl_in (by omega) (by omega)
  have hoa : od a = false := od_in (by omega) (by omega)
  have hob : od b = false := od_in (by omega) (by omega)
  have hX0 : 0 ≤ sz a * sz b := Int.mul_nonneg sa.1 sb.1
  have hX1 : sz a * sz b ≤ 2147483648 * 2147483648 := Int.mul_le_mul sa.2 sb.2 sb.1 (by omega)
  have hn := near_l hX0 (by omega)
  have hms := mul_sign a b
  unfold alidadelaw01_QfixNear.f
  rw [e1, w64 (n := a) (by omega) (by omega), w64 (n := b) (by omega) (by omega)]
  simp only [Option.bind_some]
  rw [mul_f, hca, hcb, hoa, hob, show sz a * sz b / 309485009821345068724781056 = 0 by omega, sg_small hn.1 hn.2.1]
  simp only [Option.bind_some, flag, Bool.or_self, Bool.false_eq_true, if_false]
  have hd : ∀ z : Int, z = (if ((decide (a < 0)) != (decide (b < 0))) = true then -lw (sz a * sz b) else lw (sz a * sz b)) →
      -8388608 ≤ wrap64 (wrap64 (z * 16777216) - wrap64 (a * b)) ∧ wrap64 (wrap64 (z * 16777216) - wrap64 (a * b)) ≤ 8388608 := by
    intro z hz
    generalize lw (sz a * sz b) = L at *
    generalize sz a * sz b = X at *
    generalize a * b = Y at *
    split at hz <;> split at hms <;> (try contradiction)
    · rw [w64 (n := z * 16777216) (by omega) (by omega), w64 (n := Y) (by omega) (by omega), w64 (by omega) (by omega)]
      omega
    · rw [w64 (n := z * 16777216) (by omega) (by omega), w64 (n := Y) (by omega) (by omega), w64 (by omega) (by omega)]
      omega
  have hd' := hd _ rfl
  generalize wrap64 (wrap64 ((if ((decide (a < 0)) != (decide (b < 0))) = true then -lw (sz a * sz b) else lw (sz a * sz b)) * 16777216) - wrap64 (a * b)) = dd at *
  rw [if_neg (by omega), decide_eq_false (by omega)]
  simp only [alidadelaw01_QfixNear.j0, Bool.false_eq_true, if_false]
  by_cases hb0 : b = 0
  · rw [if_pos hb0]
  · rw [if_neg hb0, e2]
    simp only [Option.bind_some]
    have hyp : 0 < sz b := by unfold sz; split <;> omega
    have hdv : dvs a b = flag false (sg 0 (rn (sz a * 16777216) (sz b)) ((decide (a < 0)) != (decide (b < 0)))) := by
      unfold dvs
      rw [hca, hcb, hoa, hob, if_neg hb0, if_neg (by omega)]
      rfl
    have hr := near_r (N := sz a * 16777216) (y := sz b) (by omega) (by omega) hyp
    rw [hdv]
    simp only [flag, Bool.false_or]
    by_cases hf : (sg 0 (rn (sz a * 16777216) (sz b)) ((decide (a < 0)) != (decide (b < 0)))).2 = true
    · rw [if_pos hf]
    · rw [if_neg hf, sg_plain (by simpa using hf)]
      generalize rn (sz a * 16777216) (sz b) = L at *
      rw [w64 (n := b) (by omega) (by omega), w64 (n := a) (by omega) (by omega)]
      rw [w64 (n := a * 16777216) (by omega) (by omega)]
      -- the rest
      obtain ⟨q, hq⟩ : ∃ q, q = (if ((decide (a < 0)) != (decide (b < 0))) = true then -L else L) * b := ⟨_, rfl⟩
      rw [← hq]
      have hrest : -sz b ≤ (a * 16777216 - q) * 2 ∧ (a * 16777216 - q) * 2 ≤ sz b := by
        have hr2 := hr.2.2
        have hs : sz a * 16777216 - L * sz b = (if a < 0 then -(a * 16777216 - q) else a * 16777216 - q) := by
          rw [hq]
          unfold sz
          by_cases h1 : a < 0 <;> by_cases h2 : b < 0 <;> simp [h1, h2, Int.neg_mul, Int.mul_neg] <;> omega
        rw [hs] at hr2
        split at hr2 <;> omega
      rw [w64 (n := q) (by omega) (by omega), w64 (n := a * 16777216 - q) (by omega) (by omega), w64 (n := (a * 16777216 - q) * 2) (by omega) (by omega)]
      have hsz : sz b = if b < 0 then -b else b := rfl
      by_cases h2 : b < 0
      · rw [if_pos h2] at hsz
        rw [if_pos h2, w64 (n := -b) (by omega) (by omega), if_pos trivial, if_pos (by omega), w64 (by omega) (by omega), decide_eq_true (by omega)]
      · rw [if_neg h2] at hsz
        rw [if_neg h2, if_pos trivial, if_pos (by omega), w64 (by omega) (by omega), decide_eq_true (by omega)]
end Go.Proofs.Ytnihbplibmljlaa.Pure
