import Derived.Test.YtmjncjaalleblaaPQx1
import Derived.Test.YtmjncjaalleblaaPQx2
import Derived.Test.YtmjncjaalleblaaPQx3
/- Plain laws of layer 1: clamps, sizes, products. -/
namespace Go.Proofs.Ytmjncjaalleblaa.PQ
open Go.RowKit Go.Proofs.YtmjncjaalleblaaW.PrintWords Go.Proofs.YtmjncjaalleblaaW.PrintLast Go.Proofs.YtmjncjaalleblaaW.PrintMore

theorem u64_wrap (n : Int) : IntKind.u64.wrap n = n % 18446744073709551616 := by simp [IntKind.wrap, IntKind.bits, IntKind.signed]
theorem wraps_u64 (n : Int) (h₀ : 0 ≤ n) (h₁ : n < 2 ^ 64) : IntKind.u64.wrap n = n := by rw [u64_wrap]; omega
theorem w64 {n : Int} (h0 : -9223372036854775808 ≤ n) (h1 : n ≤ 9223372036854775807) : wrap64 n = n := by unfold wrap64; omega
theorem mask24 (x : Int) (h0 : 0 ≤ x) (h1 : x < 18446744073709551616) : Go.bits .and .u64 x 16777215 = x % 16777216 :=
  bits_mask .u64 64 (by decide) wraps_u64 24 (by decide) x h0 h1
theorem mask1 (x : Int) (h0 : 0 ≤ x) (h1 : x < 18446744073709551616) : Go.bits .and .u64 x 1 = x % 2 :=
  bits_mask .u64 64 (by decide) wraps_u64 1 (by decide) x h0 h1
theorem or40 (x y : Int) (hx₀ : 0 ≤ x) (hx₁ : x < 1099511627776) (hy₀ : 0 ≤ y) (hy₁ : y < 18446744073709551616) (hy : y % 1099511627776 = 0) : Go.bits .or .u64 x y = y + x := by
  have h := bits_join .u64 64 (by decide) wraps_u64 40 y x hy₀ hy hy₁ hx₀ hx₁ (by omega)
  rw [← h]
  show IntKind.u64.wrap _ = IntKind.u64.wrap _
  rw [BitVec.or_comm]

/-- in bounds -/
def cl (a : Int) : Int := if a < -70368744177664 then -70368744177664 else if 70368744177663 < a then 70368744177663 else a
def od (a : Int) : Bool := decide (a < -70368744177664 ∨ 70368744177663 < a)
theorem cl_lo (a : Int) : -70368744177664 ≤ cl a := by unfold cl; repeat' split <;> omega
theorem cl_hi (a : Int) : cl a ≤ 70368744177663 := by unfold cl; repeat' split <;> omega
theorem cl_in {a : Int} (h0 : -70368744177664 ≤ a) (h1 : a ≤ 70368744177663) : cl a = a := by unfold cl; repeat' split <;> omega
theorem od_in {a : Int} (h0 : -70368744177664 ≤ a) (h1 : a ≤ 70368744177663) : od a = false := by unfold od; simp; omega
theorem od_false {a : Int} (h : od a = false) : -70368744177664 ≤ a ∧ a ≤ 70368744177663 := by unfold od at h; simp at h; omega
theorem clampZ_eq (a : Int) : clampZ a = cl a := by unfold clampZ mn mx cl; repeat' split <;> omega
theorem clampB_eq (a : Int) : clampB a = od a := by
  have e : (mn (mx a (-70368744177664)) 70368744177663) = cl a := clampZ_eq a
  unfold clampB
  rw [e, Bool.eq_iff_iff, bne_iff_ne]
  unfold cl od
  simp only [decide_eq_true_eq]
  repeat' split <;> omega
theorem clamp_f (a : Int) : qfix_Clamp.f a = some (cl a, od a) := by
  have h1 := clampZ_eq a
  have h2 := clampB_eq a
  unfold clampZ at h1
  unfold clampB at h2
  unfold qfix_Clamp.f
  rw [h2, h1]
theorem both_f (a b : Int) : qfix_both.f a b = some (cl a, cl b, od a || od b) := by
  unfold qfix_both.f
  rw [clamp_f, clamp_f]
  simp only [Option.bind_some]
  cases od a <;> simp
/-- a size -/
def sz (a : Int) : Int := if a < 0 then -a else a
theorem sz_0 (a : Int) : 0 ≤ sz a := by unfold sz; split <;> omega
theorem sz_cl (a : Int) : sz (cl a) ≤ 70368744177664 := by have := cl_lo a; have := cl_hi a; unfold sz; split <;> omega
theorem sz_neg (a : Int) : sz (-a) = sz a := by unfold sz; repeat' split <;> omega
theorem size_f (a : Int) (h0 : -70368744177664 ≤ a) (h1 : a ≤ 70368744177664) : qfix_size.f a = some (sz a) := by
  unfold qfix_size.f sz
  split
  · rw [w64 (by omega) (by omega), u64_wrap, Int.emod_eq_of_lt (by omega) (by omega)]
  · rw [u64_wrap, Int.emod_eq_of_lt (by omega) (by omega)]
/-- the low word of a product, rounded -/
def lw (X : Int) : Int :=
  let l := (X / 16777216) % 18446744073709551616
  if X % 16777216 > 8388608 then (l + 1) % 18446744073709551616 else if X % 16777216 = 8388608 then (if l % 2 = 1 then (l + 1) % 18446744073709551616 else l) else l
/-- what is told of a product's size and sign -/
def sg (h l : Int) (s : Bool) : Int × Bool :=
  if h = 0 then (if l > 70368744177664 then (cl (if s = true then -70368744177664 else 70368744177664), true) else (cl (if s = true then -l else l), od (if s = true then -l else l))) else (cl (if s = true then -70368744177664 else 70368744177664), true)
theorem signed_f (h l : Int) (s : Bool) (hl : 0 ≤ l) : qfix_signed.f h l s = some (sg h l s) := by
  unfold qfix_signed.f sg
  have e1 : turnZ s 70368744177664 = if s = true then -70368744177664 else 70368744177664 := by unfold turnZ; cases s <;> simp [wrap64]
  rw [clampZ_eq, e1]
  split
  · split
    · rfl
    · have e2 : turnZ s (wrap64 l) = if s = true then -l else l := by
        rw [w64 (by omega) (by omega)]
        unfold turnZ
        cases s <;> simp
        rw [w64 (by omega) (by omega)]
      rw [e2, clampZ_eq, clampB_eq]
  · rfl
def flag (o : Bool) (p : Int × Bool) : Int × Bool := (p.1, o || p.2)
theorem flag_some (o : Bool) (p : Int × Bool) : (if o = true then (some (p.1, true)) else (some (p.1, p.2))) = some (flag o p) := by cases o <;> simp [flag]
/-- a product -/
theorem mul_f (a b : Int) : qfix_Mul.f a b = some (flag (od a || od b) (sg (sz (cl a) * sz (cl b) / 309485009821345068724781056) (lw (sz (cl a) * sz (cl b))) ((decide (cl a < 0)) != (decide (cl b < 0))))) := by
  have ha := sz_cl a
  have hb := sz_cl b
  have ha0 := sz_0 (cl a)
  have hb0 := sz_0 (cl b)
  have hX0 : 0 ≤ sz (cl a) * sz (cl b) := Int.mul_nonneg ha0 hb0
  have hX1 : sz (cl a) * sz (cl b) ≤ 70368744177664 * 70368744177664 := Int.mul_le_mul ha hb hb0 (by omega)
  unfold qfix_Mul.f
  rw [both_f]
  simp only [Option.bind_some]
  have c1 := cl_lo a
  have c2 := cl_hi a
  have c3 := cl_lo b
  have c4 := cl_hi b
  rw [size_f _ (by omega) (by omega), size_f _ (by omega) (by omega)]
  simp only [Option.bind_some]
  unfold bits_Mul64.f
  rw [if_pos ⟨ha0, by omega, hb0, by omega⟩]
  simp only [Option.bind_some]
  generalize ((decide (cl a < 0)) != (decide (cl b < 0))) = s
  generalize (od a || od b) = o
  generalize sz (cl a) * sz (cl b) = X at *
  rw [mask24 _ (by omega) (by omega), u64_wrap (X / _ * _)]
  have e1 : Go.bits .or .u64 (X % 18446744073709551616 / 16777216) (X / 18446744073709551616 * 1099511627776 % 18446744073709551616) = (X / 16777216) % 18446744073709551616 := by
    rw [or40 _ _ (by omega) (by omega) (by omega) (by omega) (by omega)]
    omega
  rw [e1, mask1 _ (by omega) (by omega), u64_wrap]
  have e2 : X % 18446744073709551616 % 16777216 = X % 16777216 := by omega
  have e3 : X / 18446744073709551616 / 16777216 = X / 309485009821345068724781056 := by omega
  rw [e2, e3]
  have k0 : 0 ≤ lw X := by unfold lw; simp only []; repeat' split <;> omega
  rw [show (some (flag o (sg (X / 309485009821345068724781056) (lw X) s))) = (qfix_signed.f (X / 309485009821345068724781056) (lw X) s).bind fun bt => (if o = true then (some (bt.1, true)) else (some (bt.1, bt.2))) from by
    rw [signed_f _ _ _ k0]; simp only [Option.bind_some]; rw [flag_some]]
  unfold lw
  simp only []
  split
  · rfl
  · split
    · split <;> rfl
    · rfl
end Go.Proofs.Ytmjncjaalleblaa.PQ
