import Derived.Test.YtnihbplibmljlaaMathC
import Derived.Test.YtnihbplibmljlaaPQx5
/- Plain laws of layer 1: sums, quotients, roots; the document's example. -/
namespace Go.Proofs.Ytnihbplibmljlaa.PQ
open Go.RowKit Go.Proofs.YtnihbplibmljlaaW.PrintWords Go.Proofs.YtnihbplibmljlaaW.PrintLast Go.Proofs.YtnihbplibmljlaaW.PrintMore

theorem add_f (a b : Int) : qfix_Add.f a b = some (cl (cl a + cl b), (od a || od b) || od (cl a + cl b)) := by
  have := cl_lo a
  have := cl_hi a
  have := cl_lo b
  have := cl_hi b
  unfold qfix_Add.f
  rw [both_f]
  simp only [Option.bind_some]
  rw [w64 (by omega) (by omega), clamp_f]
  simp only [Option.bind_some]
  cases (od a || od b) <;> simp
theorem sub_f (a b : Int) : qfix_Sub.f a b = some (cl (cl a - cl b), (od a || od b) || od (cl a - cl b)) := by
  have := cl_lo a
  have := cl_hi a
  have := cl_lo b
  have := cl_hi b
  unfold qfix_Sub.f
  rw [both_f]
  simp only [Option.bind_some]
  rw [w64 (by omega) (by omega), clamp_f]
  simp only [Option.bind_some]
  cases (od a || od b) <;> simp
/-- a quotient, rounded -/
def rn (N y : Int) : Int := if N % y > y - N % y then (N / y + 1) % 18446744073709551616 else if N % y = y - N % y then (if N / y % 2 = 1 then (N / y + 1) % 18446744073709551616 else N / y) else N / y
def dvs (a b : Int) : Int × Bool :=
  if cl b = 0 then (if cl a > 0 then (70368744177663, true) else if cl a < 0 then (-70368744177664, true) else (0, true))
  else if sz (cl a) / 1099511627776 ≥ sz (cl b) then ((sg 1 0 ((decide (cl a < 0)) != (decide (cl b < 0)))).1, true)
  else flag (od a || od b) (sg 0 (rn (sz (cl a) * 16777216) (sz (cl b))) ((decide (cl a < 0)) != (decide (cl b < 0))))
theorem div_f (a b : Int) : Ev (fun k => qfix_Div.f k a b) (dvs a b) := by
  have c1 := cl_lo a
  have c2 := cl_hi a
  have c3 := cl_lo b
  have c4 := cl_hi b
  have ha := sz_cl a
  have hb := sz_cl b
  have ha0 := sz_0 (cl a)
  have hb0 := sz_0 (cl b)
  have hbz : cl b ≠ 0 → 0 < sz (cl b) := fun h => by unfold sz at *; split at hb0 <;> split <;> omega
  by_cases h0 : cl b = 0
  · refine Ev.congr (f := fun _ => some (dvs a b)) ?_ (Ev.now _)
    intro k
    unfold qfix_Div.f dvs
    rw [both_f]
    simp only [Option.bind_some]
    rw [if_pos h0, if_pos h0]
    repeat' split
    all_goals rfl
  · have hy := hbz h0
    by_cases h1 : sz (cl a) / 1099511627776 ≥ sz (cl b)
    · refine Ev.congr (f := fun _ => some (dvs a b)) ?_ (Ev.now _)
      intro k
      unfold qfix_Div.f dvs
      rw [both_f]
      simp only [Option.bind_some]
      rw [if_neg h0, if_neg h0, size_f _ (by omega) (by omega), size_f _ (by omega) (by omega)]
      simp only [Option.bind_some]
      rw [if_pos h1, if_pos h1, signed_f _ _ _ (by omega)]
      rfl
    · have hdv := div64 (sz (cl a) / 1099511627776) (IntKind.u64.wrap (sz (cl a) * 16777216)) (sz (cl b)) (by omega) (by omega) (by omega) (by rw [u64_wrap]; omega) (by rw [u64_wrap]; omega)
      have hN : sz (cl a) / 1099511627776 * 18446744073709551616 + IntKind.u64.wrap (sz (cl a) * 16777216) = sz (cl a) * 16777216 := by rw [u64_wrap]; omega
      rw [hN] at hdv
      obtain ⟨K, hK⟩ := hdv
      refine ⟨K, fun k hk => ?_⟩
      have hk' := hK k hk
      show qfix_Div.f k a b = _
      unfold qfix_Div.f dvs
      rw [both_f]
      simp only [Option.bind_some]
      rw [if_neg h0, if_neg h0, size_f _ (by omega) (by omega), size_f _ (by omega) (by omega)]
      simp only [Option.bind_some]
      rw [if_neg h1, if_neg h1]
      simp only [] at hk'
      rw [hk']
      simp only [Option.bind_some]
      generalize ((decide (cl a < 0)) != (decide (cl b < 0))) = s
      generalize (od a || od b) = o
      have hq0 : 0 ≤ sz (cl a) * 16777216 / sz (cl b) := Int.ediv_nonneg (by omega) (by omega)
      have hq1 : sz (cl a) * 16777216 / sz (cl b) < 18446744073709551616 := Int.ediv_lt_of_lt_mul hy (by omega)
      have hr0 := Int.emod_nonneg (sz (cl a) * 16777216) (show sz (cl b) ≠ 0 by omega)
      have hr1 := Int.emod_lt_of_pos (sz (cl a) * 16777216) hy
      rw [mask1 _ hq0 hq1, wraps_u64 (sz (cl b) - _) (by omega) (by omega), u64_wrap]
      have k0 : 0 ≤ rn (sz (cl a) * 16777216) (sz (cl b)) := by unfold rn; repeat' split <;> omega
      rw [show (some (flag o (sg 0 (rn (sz (cl a) * 16777216) (sz (cl b))) s))) = (qfix_signed.f 0 (rn (sz (cl a) * 16777216) (sz (cl b))) s).bind fun bt => (if o = true then (some (bt.1, true)) else (some (bt.1, bt.2))) from by
        rw [signed_f _ _ _ k0]; simp only [Option.bind_some]; rw [flag_some]]
      unfold rn
      split
      · rfl
      · split
        · split <;> rfl
        · rfl

theorem half5 : qfix_Half.f 5 1 = some 2 := by decide +kernel
theorem half7 : qfix_Half.f 7 1 = some 4 := by decide +kernel
theorem shown_f : Ev (fun k => alidadelaw01_shown.f k) true := by
  have hd := div_f 16777216 50331648
  have e1 : dvs 16777216 50331648 = (5592405, false) := by decide +kernel
  rw [e1] at hd
  obtain ⟨K, hK⟩ := hd
  refine ⟨K, fun k hk => ?_⟩
  have hk' := hK k hk
  simp only [] at hk'
  show alidadelaw01_shown.f k = some true
  unfold alidadelaw01_shown.f
  rw [mul_f, hk']
  have e2 : flag (od 25165824 || od 25165824) (sg (sz (cl 25165824) * sz (cl 25165824) / 309485009821345068724781056) (lw (sz (cl 25165824) * sz (cl 25165824))) ((decide (cl 25165824 < 0)) != (decide (cl 25165824 < 0)))) = (37748736, false) := by decide +kernel
  rw [e2, half5, half7]
  rfl
theorem in_f (a : Int) : alidaderef01_In.f a = some (decide (-70368744177664 ≤ a ∧ a ≤ 70368744177663)) := by
  unfold alidaderef01_In.f
  by_cases h : a ≥ -70368744177664
  · rw [if_pos h]
    congr 1
    rw [decide_eq_decide]
    omega
  · rw [if_neg h]
    congr 1
    symm
    simp
    omega
end Go.Proofs.Ytnihbplibmljlaa.PQ
