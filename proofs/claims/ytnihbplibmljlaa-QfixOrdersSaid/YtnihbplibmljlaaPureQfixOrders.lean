/- QfixOrders: sums and products hang on no order; a number in bounds times 1, and by 1, stays, and less itself it is 0; for all a and b of 64 bits. -/
import Derived.Test.YtnihbplibmljlaaPQx5
import Derived.Test.YtnihbplibmljlaaMathD
namespace Go.Proofs.Ytnihbplibmljlaa.Pure
open Go.RowKit Go.Proofs.Ytnihbplibmljlaa.PQ Go.Proofs.YtnihbplibmljlaaW.PrintWords Go.Proofs.YtnihbplibmljlaaW.PrintLast

theorem mul_comm_f (a b : Int) : qfix_Mul.f b a = qfix_Mul.f a b := by
  rw [mul_f, mul_f, Int.mul_comm (sz (cl b)), Bool.or_comm (od b), bne_comm (a := decide (cl b < 0))]
theorem add_comm_f (a b : Int) : qfix_Add.f b a = qfix_Add.f a b := by
  rw [add_f, add_f, Int.add_comm (cl b), Bool.or_comm (od b)]
theorem sub_self_f (a : Int) (h0 : -70368744177664 ≤ a) (h1 : a ≤ 70368744177663) : qfix_Sub.f a a = some (0, false) := by
  rw [sub_f, od_in h0 h1, Int.sub_self]
  rfl
theorem sg_back (a : Int) (h0 : -70368744177664 ≤ a) (h1 : a ≤ 70368744177663) : sg 0 (sz a) ((decide (a < 0)) != false) = (a, false) := by
  unfold sg sz
  rw [if_pos rfl]
  by_cases h : a < 0
  · rw [decide_eq_true h]
    simp only [if_pos h, show (true != false) = true from rfl, if_true, Int.neg_neg]
    rw [if_neg (by omega), cl_in h0 h1, od_in h0 h1]
  · rw [decide_eq_false h]
    simp only [if_neg h, show (false != false) = false from rfl, Bool.false_eq_true, if_false]
    rw [if_neg (by omega), cl_in h0 h1, od_in h0 h1]
theorem mul_one_f (a : Int) (h0 : -70368744177664 ≤ a) (h1 : a ≤ 70368744177663) : qfix_Mul.f a 16777216 = some (a, false) := by
  have hs : 0 ≤ sz a ∧ sz a ≤ 70368744177664 := by unfold sz; split <;> omega
  rw [mul_f, cl_in h0 h1, od_in h0 h1, show cl 16777216 = 16777216 from cl_in (by omega) (by omega), show od 16777216 = false from od_in (by omega) (by omega), show sz 16777216 = 16777216 from rfl,
    show sz a * 16777216 / 309485009821345068724781056 = 0 by omega, show lw (sz a * 16777216) = sz a by unfold lw; simp only []; rw [if_neg (by omega), if_neg (by omega)]; omega,
    show decide ((16777216 : Int) < 0) = false from rfl, sg_back a h0 h1]
  rfl
theorem div_one_f (a : Int) (h0 : -70368744177664 ≤ a) (h1 : a ≤ 70368744177663) : dvs a 16777216 = (a, false) := by
  have hs : 0 ≤ sz a ∧ sz a ≤ 70368744177664 := by unfold sz; split <;> omega
  unfold dvs
  rw [cl_in h0 h1, od_in h0 h1, show cl 16777216 = 16777216 from cl_in (by omega) (by omega), show od 16777216 = false from od_in (by omega) (by omega), show sz 16777216 = 16777216 from rfl,
    if_neg (by omega), if_neg (by omega), show rn (sz a * 16777216) 16777216 = sz a by unfold rn; rw [if_neg (by omega), if_neg (by omega)]; omega,
    show decide ((16777216 : Int) < 0) = false from rfl, sg_back a h0 h1]
  rfl

theorem QfixOrders : alidadelaw01_QfixOrders.Pure := by
  intro a b ha hb
  obtain ⟨K1, hK1⟩ := shown_f
  obtain ⟨K2, hK2⟩ := div_f a 16777216
  refine ⟨max K1 K2 + 1, ?_⟩
  have e1 : alidadelaw01_shown.f (max K1 K2 + 1) = some true := hK1 _ (by omega)
  have e2 : qfix_Div.f (max K1 K2) a 16777216 = some (dvs a 16777216) := hK2 _ (by omega)
  unfold alidadelaw01_QfixOrders.f
  rw [e1, add_comm_f, mul_comm_f, add_f, mul_f]
  simp only [Option.bind_some, if_true, bne_self_eq_false, Bool.false_eq_true, if_false, alidadelaw01_QfixOrders.j0]
  rw [in_f]
  simp only [Option.bind_some]
  by_cases h : ¬(-70368744177664 ≤ a ∧ a ≤ 70368744177663)
  · rw [decide_eq_false h, if_neg (by decide)]
  have h := Decidable.not_not.mp h
  rw [decide_eq_true h, if_pos rfl, mul_one_f a h.1 h.2, e2, div_one_f a h.1 h.2, sub_self_f a h.1 h.2]
  simp
end Go.Proofs.Ytnihbplibmljlaa.Pure
