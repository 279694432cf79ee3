/- QfixSigns: turned round, a product and a quotient turn round, and so does a sum unless a bound is met; for all a and b of 64 bits (out of bounds, or the least number, nothing is asked). -/
import Derived.Test.YtnihbplibmljlaaPQx4
import Derived.Test.YtnihbplibmljlaaMathD
namespace Go.Proofs.Ytnihbplibmljlaa.Pure
open Go.RowKit Go.Proofs.Ytnihbplibmljlaa.PQ Go.Proofs.YtnihbplibmljlaaW.PrintWords Go.Proofs.YtnihbplibmljlaaW.PrintLast

theorem sg_turn {h l : Int} {s : Bool} (hp : (sg h l s).2 = false) (hq : (sg h l (!s)).2 = false) : (sg h l (!s)).1 = -(sg h l s).1 := by
  unfold sg at *
  by_cases h0 : h = 0
  · by_cases h1 : l > 70368744177664
    · simp [h0, h1] at hp
    · simp only [if_pos h0, if_neg h1] at *
      have a := od_false hp
      have b := od_false hq
      rw [cl_in a.1 a.2, cl_in b.1 b.2]
      cases s <;> simp
  · simp [h0] at hp
theorem sg_zero (s : Bool) : sg 0 0 s = (0, false) := by cases s <;> decide +kernel
theorem bool3 {x y : Bool} {a b : Int} (h : x = false → y = false → b = -a) : (x || y || decide (b = -a)) = true := by
  cases x <;> cases y <;> simp
  exact h rfl rfl
theorem sg_in (h l : Int) (s : Bool) : -70368744177664 ≤ (sg h l s).1 ∧ (sg h l s).1 ≤ 70368744177663 := by
  have h : ∀ (x : Int) (b : Bool), -70368744177664 ≤ ((cl x, b) : Int × Bool).1 ∧ ((cl x, b) : Int × Bool).1 ≤ 70368744177663 := fun x _ => ⟨cl_lo x, cl_hi x⟩
  unfold sg
  repeat' split
  all_goals exact h _ _
theorem mul_turn (a b : Int) (ha0 : -70368744177663 ≤ a) (ha1 : a ≤ 70368744177663) :
    ∃ p q : Int × Bool, qfix_Mul.f a b = some p ∧ qfix_Mul.f (-a) b = some q ∧ (-70368744177664 ≤ p.1 ∧ p.1 ≤ 70368744177663) ∧ (p.2 = false → q.2 = false → q.1 = -p.1) := by
  refine ⟨_, _, mul_f a b, mul_f (-a) b, sg_in _ _ _, ?_⟩
  rw [cl_in (a := a) (by omega) (by omega), cl_in (a := -a) (by omega) (by omega), od_in (a := a) (by omega) (by omega), od_in (a := -a) (by omega) (by omega), sz_neg]
  simp only [flag, Bool.false_or]
  by_cases hz : a = 0
  · subst hz
    have e : sz 0 * sz (cl b) = 0 := by show 0 * sz (cl b) = 0; omega
    rw [e]
    have : lw 0 = 0 := by decide +kernel
    rw [this, show (0 : Int) / 309485009821345068724781056 = 0 by decide, sg_zero, sg_zero]
    simp
  · rw [show ((decide (-a < 0)) != (decide (cl b < 0))) = !((decide (a < 0)) != (decide (cl b < 0))) by
      by_cases h1 : a < 0
      · rw [decide_eq_true h1, decide_eq_false (by omega)]; simp
      · rw [decide_eq_false h1, decide_eq_true (by omega)]; simp]
    intro hp hq
    simp only [Bool.or_eq_false_iff] at hp hq
    exact sg_turn hp.2 hq.2
theorem dvs_in (a b : Int) : -70368744177664 ≤ (dvs a b).1 ∧ (dvs a b).1 ≤ 70368744177663 := by
  unfold dvs
  repeat' split
  all_goals first | exact sg_in _ _ _ | (simp; done)
theorem dvs_near (a b : Int) (ha0 : -70368744177663 ≤ a) (ha1 : a ≤ 70368744177663) (h : (dvs a b).2 = false) :
    cl b ≠ 0 ∧ dvs a b = flag (od b) (sg 0 (rn (sz a * 16777216) (sz (cl b))) ((decide (a < 0)) != (decide (cl b < 0)))) := by
  have e : dvs a b = if cl b = 0 then (if a > 0 then (70368744177663, true) else if a < 0 then (-70368744177664, true) else (0, true))
    else if sz a / 1099511627776 ≥ sz (cl b) then ((sg 1 0 ((decide (a < 0)) != (decide (cl b < 0)))).1, true)
    else flag (od b) (sg 0 (rn (sz a * 16777216) (sz (cl b))) ((decide (a < 0)) != (decide (cl b < 0)))) := by
    unfold dvs
    rw [cl_in (a := a) (by omega) (by omega), od_in (a := a) (by omega) (by omega), Bool.false_or]
  rw [e] at h
  by_cases h0 : cl b = 0
  · rw [if_pos h0] at h
    repeat' split at h
    all_goals cases h
  · rw [if_neg h0] at e h
    by_cases h1 : sz a / 1099511627776 ≥ sz (cl b)
    · rw [if_pos h1] at h
      cases h
    · rw [if_neg h1] at e
      exact ⟨h0, e⟩
theorem div_turn (a b : Int) (ha0 : -70368744177663 ≤ a) (ha1 : a ≤ 70368744177663) (hp : (dvs a b).2 = false) (hq : (dvs (-a) b).2 = false) : (dvs (-a) b).1 = -(dvs a b).1 := by
  obtain ⟨h0, e1⟩ := dvs_near a b ha0 ha1 hp
  obtain ⟨_, e2⟩ := dvs_near (-a) b (by omega) (by omega) hq
  rw [e1] at hp ⊢
  rw [e2] at hq ⊢
  rw [sz_neg] at *
  simp only [flag, Bool.or_eq_false_iff] at *
  have hp := hp.2
  have hq := hq.2
  by_cases hz : a = 0
  · subst hz
    have hr : rn (sz 0 * 16777216) (sz (cl b)) = 0 := by
      have hy : 0 < sz (cl b) := by unfold sz; split <;> omega
      show rn 0 _ = 0
      unfold rn
      rw [Int.zero_emod, Int.zero_ediv, if_neg (by omega), if_neg (by omega)]
    rw [hr, sg_zero, sg_zero]
    rfl
  · have e : ((decide (-a < 0)) != (decide (cl b < 0))) = !((decide (a < 0)) != (decide (cl b < 0))) := by
      by_cases h1 : a < 0
      · rw [decide_eq_true h1, decide_eq_false (by omega)]; simp
      · rw [decide_eq_false h1, decide_eq_true (by omega)]; simp
    rw [e] at hq ⊢
    exact sg_turn hp hq

theorem QfixSigns : alidadelaw01_QfixSigns.Pure := by
  intro a b ha hb
  obtain ⟨K1, hK1⟩ := shown_f
  obtain ⟨K2, hK2⟩ := div_f a b
  obtain ⟨K3, hK3⟩ := div_f (-a) b
  refine ⟨max K1 (max K2 K3) + 1, ?_⟩
  have e1 : alidadelaw01_shown.f (max K1 (max K2 K3) + 1) = some true := hK1 _ (by omega)
  have e2 : qfix_Div.f (max K1 (max K2 K3)) a b = some (dvs a b) := hK2 _ (by omega)
  have e3 : qfix_Div.f (max K1 (max K2 K3)) (-a) b = some (dvs (-a) b) := hK3 _ (by omega)
  unfold alidadelaw01_QfixSigns.f
  rw [e1, in_f, in_f]
  simp only [Option.bind_some]
  by_cases h1 : ¬(-70368744177664 ≤ a ∧ a ≤ 70368744177663)
  · rw [decide_eq_false h1, if_neg (by decide)]
    simp [alidadelaw01_QfixSigns.j0]
  have h1 := Decidable.not_not.mp h1
  rw [decide_eq_true h1, if_pos rfl]
  by_cases h2 : ¬(-70368744177664 ≤ b ∧ b ≤ 70368744177663)
  · rw [decide_eq_false h2, if_neg (by decide)]
    simp [alidadelaw01_QfixSigns.j0]
  have h2 := Decidable.not_not.mp h2
  rw [decide_eq_true h2, if_pos rfl]
  by_cases h3 : a = -70368744177664
  · rw [if_pos h3]
    simp [alidadelaw01_QfixSigns.j0]
  rw [if_neg h3]
  by_cases h4 : b = -70368744177664
  · rw [show (b == -70368744177664) = true by simp [h4]]
    simp [alidadelaw01_QfixSigns.j0]
  rw [show (b == -70368744177664) = false by simp [h4]]
  obtain ⟨p, q, hp, hq, hpb, hpq⟩ := mul_turn a b (by omega) (by omega)
  have hdv := div_turn a b (by omega) (by omega)
  have hdb := dvs_in a b
  simp only [alidadelaw01_QfixSigns.j0, Bool.false_eq_true, if_false, if_true]
  rw [hp, w64 (n := -a) (by omega) (by omega), w64 (n := -b) (by omega) (by omega), hq, e2, e3, add_f, add_f]
  simp only [Option.bind_some]
  have c0 := cl_lo (cl a + cl b)
  have c1 := cl_hi (cl a + cl b)
  rw [w64 (n := -p.1) (by omega) (by omega), w64 (n := -(dvs a b).1) (by omega) (by omega), w64 (n := -cl (cl a + cl b)) (by omega) (by omega)]
  have hs : od (cl a + cl b) = false → od (cl (-a) + cl (-b)) = false → cl (cl (-a) + cl (-b)) = -cl (cl a + cl b) := by
    intro x y
    have x := od_false x
    have y := od_false y
    rw [cl_in x.1 x.2, cl_in y.1 y.2, cl_in (a := a) (by omega) (by omega), cl_in (a := b) (by omega) (by omega), cl_in (a := -a) (by omega) (by omega), cl_in (a := -b) (by omega) (by omega)]
    omega
  rw [od_in (a := a) (by omega) (by omega), od_in (a := b) (by omega) (by omega), od_in (a := -a) (by omega) (by omega), od_in (a := -b) (by omega) (by omega)]
  simp only [Bool.or_self, Bool.false_or]
  generalize od (cl a + cl b) = i at *
  generalize od (cl (-a) + cl (-b)) = j at *
  generalize cl (cl (-a) + cl (-b)) = W at *
  generalize cl (cl a + cl b) = V at *
  have hlast : (if i = true then some true else if j = true then some true else some (W == -V)) = some true := by
    cases i <;> cases j <;> simp
    exact hs rfl rfl
  rw [hlast]
  generalize dvs a b = R at *
  generalize dvs (-a) b = T at *
  obtain ⟨R1, R2⟩ := R
  obtain ⟨T1, T2⟩ := T
  obtain ⟨p1, p2⟩ := p
  obtain ⟨q1, q2⟩ := q
  simp only at *
  have hmid : (if R2 = true then some true else if T2 = true then some true else if T1 = -R1 then some true else some false) = some true := by
    cases R2 <;> cases T2 <;> simp
    exact hdv rfl rfl
  rw [hmid]
  cases p2 <;> cases q2 <;> simp
  exact hpq rfl rfl
end Go.Proofs.Ytnihbplibmljlaa.Pure
