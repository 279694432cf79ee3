import Derived.Test.YtninmcmajbfccaaY4
import Derived.Test.YtninmcmajbfccaaY2
import Derived.Laws.MakeOwn
import Derived.Laws.IdiomCopy
import Derived.Test.YtninmcmajbfccaaY3
/- Joined and thinned by a program of this session's own (wip/pack2.py) out of its texts (wip/ of its repo); parts were laid by its own program (wip/print-patch.py over the kit's print) out of the translation; Lean checks all. -/
set_option maxRecDepth 100000
set_option maxHeartbeats 8000000
namespace Go.Proofs.Ytninmcmajbfccaa.PQ
open Go.RowKit Go.Proofs.aH.bK Go.Proofs.aH.dG Go.Proofs.aH.dJ
theorem DD (f : Nat) : Lib.bitLenAux f 0 = 0 := by cases f <;> simp [Lib.bitLenAux]
theorem zS : ∀ (f x : Nat), x < 2 ^ f → x < 2 ^ Lib.bitLenAux f x ∧ (x ≠ 0 → 2 ^ Lib.bitLenAux f x ≤ 2 * x)
 | 0, x, h => by simp at h; subst h; simp [Lib.bitLenAux]
 | f + 1, x, h => by
   by_cases hx : x = 0
   · subst hx
     rw [DD]
     simp
   · obtain ⟨h1, h2⟩ := zS f (x / 2) (by rw [Nat.pow_succ] at h; omega)
     simp only [Lib.bitLenAux, if_neg hx]
     rw [Nat.pow_add]
     generalize hA : 2 ^ Lib.bitLenAux f (x / 2) = A at *
     refine ⟨by omega, fun _ => ?_⟩
     by_cases h0 : x / 2 = 0
     · have : x = 1 := by omega
       subst this
       rw [h0, DD] at hA
       simp at hA
       omega
     · have := h2 h0
       omega
theorem Eo (n : Nat) : ((2 ^ n : Nat) : Int) = (2 : Int) ^ n := by simp
theorem Y7 (y : Int) (h0 : 0 < y) (h1 : y < 18446744073709551616) :
 ∃ s : Nat, s ≤ 63 ∧ bits_LeadingZeros64.f y = some (s : Int) ∧ 9223372036854775808 ≤ y * 2 ^ s ∧ y * 2 ^ s < 18446744073709551616 := by
 obtain ⟨n, rfl⟩ := Int.eq_ofNat_of_zero_le (Int.le_of_lt h0)
 have hb := zS 64 n (by omega)
 have hle : Lib.bitLen n ≤ 64 := Lib.bitLen_le n 64 (by decide) (by omega)
 have hn0 : n ≠ 0 := by omega
 have hb2 := hb.2 hn0
 have hb1 := hb.1
 change n < 2 ^ Lib.bitLen n at hb1
 change 2 ^ Lib.bitLen n ≤ 2 * n at hb2
 have hpos : 1 ≤ Lib.bitLen n := by
  rcases Nat.eq_zero_or_pos (Lib.bitLen n) with h | h
  · rw [h] at hb1
    omega
  · exact h
 have hp : 2 ^ Lib.bitLen n * 2 ^ (64 - Lib.bitLen n) = 18446744073709551616 := by
  rw [← Nat.pow_add, show Lib.bitLen n + (64 - Lib.bitLen n) = 64 by omega]
 have hP : 0 < 2 ^ (64 - Lib.bitLen n) := Nat.two_pow_pos _
 have e1 := Nat.mul_le_mul_right (2 ^ (64 - Lib.bitLen n)) hb2
 have e2 := Nat.mul_lt_mul_of_pos_right hb1 hP
 rw [Nat.mul_assoc] at e1
 refine ⟨64 - Lib.bitLen n, by omega, ?_, ?_, ?_⟩
 · unfold bits_LeadingZeros64.f
   rw [if_pos ⟨by omega, by omega⟩]
   simp
   omega
 · rw [← Eo, ← Int.natCast_mul]
   omega
 · rw [← Eo, ← Int.natCast_mul]
   omega
theorem Rz (hi lo y : Int) (h0 : 0 ≤ hi) (h1 : hi < y) (hy : y < 18446744073709551616) (hl0 : 0 ≤ lo) (hl1 : lo < 18446744073709551616) (hne : hi ≠ 0) :
 Ev (fun k => bC.f k hi lo y) ((hi * 18446744073709551616 + lo) / y, (hi * 18446744073709551616 + lo) % y) := by
 obtain ⟨s, hs, hlz, hD1, hD2⟩ := Y7 y (by omega) hy
 have hP : (0 : Int) < 2 ^ s := by rw [← Eo]; have := Nat.two_pow_pos s; omega
 have hR : (0 : Int) < 2 ^ (64 - s) := by rw [← Eo]; have := Nat.two_pow_pos (64 - s); omega
 have hPR : (2 : Int) ^ (64 - s) * 2 ^ s = 18446744073709551616 := by
  rw [← Int.pow_add, show 64 - s + s = 64 by omega]; rfl
 have hS : shl .u64 y s = y * 2 ^ s := by
  unfold shl
  rw [show min (s : Int).toNat IntKind.u64.bits = s by simp [IntKind.bits]; omega, gG, Int.emod_eq_of_lt (by omega) (by omega)]
 have hhi : hi * 2 ^ s + 2 ^ s ≤ y * 2 ^ s := by
  have := Int.mul_le_mul_of_nonneg_right (show hi + 1 ≤ y by omega) (Int.le_of_lt hP)
  rw [Int.add_mul] at this
  omega
 have hhi0 : 0 ≤ hi * 2 ^ s := Int.mul_nonneg h0 (Int.le_of_lt hP)
 have hS2 : shl .u64 hi s = hi * 2 ^ s := by
  unfold shl
  rw [show min (s : Int).toNat IntKind.u64.bits = s by simp [IntKind.bits]; omega, gG, Int.emod_eq_of_lt (by omega) (by omega)]
 have hT : IntKind.u64.wrap (64 - (s : Int)) = ((64 - s : Nat) : Int) := by rw [gG]; omega
 have hS3 : shr .u64 lo ((64 - s : Nat) : Int) = lo / 2 ^ (64 - s) := by
  unfold shr
  rw [show min ((64 - s : Nat) : Int).toNat IntKind.u64.bits = 64 - s by simp [IntKind.bits]]
 have ha := Int.mul_ediv_add_emod lo (2 ^ (64 - s))
 have hb0 := Int.emod_nonneg lo (Int.ne_of_gt hR)
 have hb1 := Int.emod_lt_of_pos lo hR
 have ha0 : 0 ≤ lo / 2 ^ (64 - s) := Int.ediv_nonneg hl0 (Int.le_of_lt hR)
 have ha1 : lo / 2 ^ (64 - s) < 2 ^ s := Int.ediv_lt_of_lt_mul hR (by rw [Int.mul_comm, hPR]; exact hl1)
 have hL : lo * 2 ^ s = lo / 2 ^ (64 - s) * 18446744073709551616 + lo % 2 ^ (64 - s) * 2 ^ s := by
  have e : (2 ^ (64 - s) * (lo / 2 ^ (64 - s)) + lo % 2 ^ (64 - s)) * 2 ^ s = lo * 2 ^ s := by rw [ha]
  rw [Int.add_mul, Int.mul_comm (2 ^ (64 - s)) (lo / _), Int.mul_assoc, hPR] at e
  exact e.symm
 have anZ : 0 ≤ lo % 2 ^ (64 - s) * 2 ^ s := Int.mul_nonneg hb0 (Int.le_of_lt hP)
 have anY : lo % 2 ^ (64 - s) * 2 ^ s < 18446744073709551616 := by
  rw [← hPR]
  exact Int.mul_lt_mul_of_pos_right hb1 hP
 have hS4 : shl .u64 lo s = lo % 2 ^ (64 - s) * 2 ^ s := by
  unfold shl
  rw [show min (s : Int).toNat IntKind.u64.bits = s by simp [IntKind.bits]; omega, gG, hL]
  omega
 have hor : Go.bits .or .u64 (hi * 2 ^ s) (lo / 2 ^ (64 - s)) = hi * 2 ^ s + lo / 2 ^ (64 - s) := by
  refine bits_join .u64 64 (by decide) wraps_u64 s _ _ hhi0 (Int.mul_emod_left _ _) (by omega) ha0 ha1 (by omega)
 have hN : (hi * 18446744073709551616 + lo) * 2 ^ s = (hi * 2 ^ s + lo / 2 ^ (64 - s)) * 18446744073709551616 + lo % 2 ^ (64 - s) * 2 ^ s := by
  rw [Int.add_mul, hL, Int.mul_assoc, Int.mul_comm 18446744073709551616 (2 ^ s), ← Int.mul_assoc, Int.add_mul]
  omega
 have hz : (y * 2 ^ s) / 4294967296 ≠ 0 := by omega
 have hres : ∀ D U L : Int, D = y * 2 ^ s → U = hi * 2 ^ s + lo / 2 ^ (64 - s) → L = lo % 2 ^ (64 - s) * 2 ^ s →
  Ev (fun k => bC.l0 k D s (D / 4294967296) (D % 4294967296) U (L / 4294967296) (L % 4294967296) (U / (D / 4294967296)) (U - U / (D / 4294967296) * (D / 4294967296)))
   ((hi * 18446744073709551616 + lo) / y, (hi * 18446744073709551616 + lo) % y) := by
  intro D U L eD eU eL
  rw [← eU, ← eL] at hN
  have Xy : 0 ≤ U := by omega
  have hUD : U < D := by omega
  have hD : D = D / 4294967296 * 4294967296 + D % 4294967296 := by omega
  have hDB : D < 18446744073709551616 := by omega
  have hDp : 0 < D := by omega
  have hr0 := Int.emod_nonneg U (show D / 4294967296 ≠ 0 by omega)
  have hr1 := Int.emod_lt_of_pos U (show 0 < D / 4294967296 by omega)
  have hre := Int.ediv_mul_add_emod U (D / 4294967296)
  have hf := DR (u := L / 4294967296) hD (by omega) (by omega) (by omega) Xy hUD (by omega) (by omega)
  refine aaN hD (by omega) (by omega) (by omega) (by omega) Xy hUD (by omega) (by omega) s (L % 4294967296) _ ?_ ((U / (D / 4294967296) - (U * 4294967296 + L / 4294967296) / D).toNat) _ _ (by omega) (by omega) (by omega) hf.1 hf.2 (by omega)
  have hm1 := Int.ediv_mul_add_emod (U * 4294967296 + L / 4294967296) D
  have hm2 := Int.emod_nonneg (U * 4294967296 + L / 4294967296) (show D ≠ 0 by omega)
  have hm3 := Int.emod_lt_of_pos (U * 4294967296 + L / 4294967296) hDp
  have hq1 := zF hDp hUD (show L / 4294967296 < 4294967296 by omega)
  have hq0 : 0 ≤ (U * 4294967296 + L / 4294967296) / D := Int.ediv_nonneg (by omega) (by omega)
  generalize (U * 4294967296 + L / 4294967296) / D = Q1 at *
  generalize hR1 : (U * 4294967296 + L / 4294967296) % D = R1 at *
  have hw : IntKind.u64.wrap (IntKind.u64.wrap (IntKind.u64.wrap (U * 4294967296) + L / 4294967296) - IntKind.u64.wrap (Q1 * D)) = R1 := by
   rw [gG, gG, gG, gG]
   omega
  have an2 := Int.emod_nonneg R1 (show D / 4294967296 ≠ 0 by omega)
  have an1 := Int.emod_lt_of_pos R1 (show 0 < D / 4294967296 by omega)
  have an0 := Int.ediv_mul_add_emod R1 (D / 4294967296)
  have hd1 : IntKind.u64.wrap (Int.tdiv R1 (D / 4294967296)) = R1 / (D / 4294967296) := by
   rw [Int.tdiv_eq_ediv_of_nonneg hm2]
   refine wraps_u64 _ (Int.ediv_nonneg hm2 (by omega)) ?_
   have := Int.ediv_le_self (a := R1) (D / 4294967296) hm2
   omega
  have hf2 := DR (u := L % 4294967296) hD (by omega) (by omega) (by omega) hm2 hm3 (by omega) (by omega)
  refine Ev.step (f := fun k => bC.l1 k D s (D / 4294967296) (D % 4294967296) (L % 4294967296) Q1 (R1 - R1 / (D / 4294967296) * (D / 4294967296)) R1 (R1 / (D / 4294967296))) ?_ ?_
  · intro k
    simp only [bC.j2]
    rw [if_neg (by omega), hw, hd1]
    congr 1
    have hmul : R1 / (D / 4294967296) * (D / 4294967296) ≤ R1 := by omega
    have akL : 0 ≤ R1 / (D / 4294967296) * (D / 4294967296) := Int.mul_nonneg (Int.ediv_nonneg hm2 (by omega)) (by omega)
    generalize R1 / (D / 4294967296) * (D / 4294967296) = Z at *
    rw [gG, gG]
    omega
  · have hl := aaM hD (by omega) (by omega) (by omega) (by omega) hm2 hm3 (show 0 ≤ L % 4294967296 by omega) (by omega) s Q1 (by omega) ((R1 / (D / 4294967296) - (R1 * 4294967296 + L % 4294967296) / D).toNat) (R1 / (D / 4294967296)) (R1 - R1 / (D / 4294967296) * (D / 4294967296)) (by omega) (by omega) (by omega) hf2.1 hf2.2 (by omega)
    have hn1 := Int.ediv_mul_add_emod (R1 * 4294967296 + L % 4294967296) D
    have hn2 := Int.emod_nonneg (R1 * 4294967296 + L % 4294967296) (show D ≠ 0 by omega)
    have hn3 := Int.emod_lt_of_pos (R1 * 4294967296 + L % 4294967296) hDp
    have hp1 := zF hDp hm3 (show L % 4294967296 < 4294967296 by omega)
    have hp0 : 0 ≤ (R1 * 4294967296 + L % 4294967296) / D := Int.ediv_nonneg (by omega) (by omega)
    generalize (R1 * 4294967296 + L % 4294967296) / D = Q0 at *
    generalize (R1 * 4294967296 + L % 4294967296) % D = R0 at *
    have hw2 : IntKind.u64.wrap (IntKind.u64.wrap (IntKind.u64.wrap (R1 * 4294967296) + L % 4294967296) - IntKind.u64.wrap (Q0 * D)) = R0 := by
     rw [gG, gG, gG, gG]
     omega
    have hw3 : IntKind.u64.wrap (IntKind.u64.wrap (Q1 * 4294967296) + Q0) = Q1 * 4294967296 + Q0 := by
     rw [gG, gG]
     omega
    rw [hw2, hw3] at hl
    have hsr : shr .u64 R0 s = R0 / 2 ^ s := by
     unfold shr
     rw [show min (s : Int).toNat IntKind.u64.bits = s by simp [IntKind.bits]; omega]
    rw [hsr] at hl
    have hfin : (hi * 18446744073709551616 + lo) * 2 ^ s = (Q1 * 4294967296 + Q0) * D + R0 := by
     have e : (Q1 * 4294967296 + Q0) * D = Q1 * D * 4294967296 + Q0 * D := by
      rw [Int.add_mul, Int.mul_assoc Q1, Int.mul_comm 4294967296 D, ← Int.mul_assoc]
     rw [hN, e]
     omega
    have hdm := Int.ediv_mul_add_emod (hi * 18446744073709551616 + lo) y
    have aiD := Int.emod_nonneg (hi * 18446744073709551616 + lo) (show y ≠ 0 by omega)
    have aiC := Int.emod_lt_of_pos (hi * 18446744073709551616 + lo) (show 0 < y by omega)
    generalize hi * 18446744073709551616 + lo = N at *
    have e1 : (N / y) * D + (N % y) * 2 ^ s = (Q1 * 4294967296 + Q0) * D + R0 := by
     rw [← hfin, eD, ← Int.mul_assoc, ← Int.add_mul, hdm]
    have hx0 : 0 ≤ (N % y) * 2 ^ s := Int.mul_nonneg aiD (Int.le_of_lt hP)
    have hx1 : (N % y) * 2 ^ s < D := by rw [eD]; exact Int.mul_lt_mul_of_pos_right aiC hP
    have f1 : ((N / y) * D + (N % y) * 2 ^ s) / D = N / y := by
     rw [Int.add_comm, Int.add_mul_ediv_right _ _ (Int.ne_of_gt hDp), Int.ediv_eq_zero_of_lt hx0 hx1, Int.zero_add]
    have f2 : ((Q1 * 4294967296 + Q0) * D + R0) / D = Q1 * 4294967296 + Q0 := by
     rw [Int.add_comm, Int.add_mul_ediv_right _ _ (Int.ne_of_gt hDp), Int.ediv_eq_zero_of_lt hn2 hn3, Int.zero_add]
    have f3 : N / y = Q1 * 4294967296 + Q0 := by rw [← f1, e1, f2]
    rw [f3] at e1
    have f4 : R0 = (N % y) * 2 ^ s := by omega
    rw [f3, show N % y = R0 / 2 ^ s by rw [f4, Int.mul_ediv_cancel _ (Int.ne_of_gt hP)]]
    exact hl
 have hgo := hres _ _ _ rfl rfl rfl
 refine Ev.congr (f := fun k => bC.l0 k (y * 2 ^ s) s (y * 2 ^ s / 4294967296) (y * 2 ^ s % 4294967296) (hi * 2 ^ s + lo / 2 ^ (64 - s)) (lo % 2 ^ (64 - s) * 2 ^ s / 4294967296) (lo % 2 ^ (64 - s) * 2 ^ s % 4294967296) ((hi * 2 ^ s + lo / 2 ^ (64 - s)) / (y * 2 ^ s / 4294967296)) (hi * 2 ^ s + lo / 2 ^ (64 - s) - (hi * 2 ^ s + lo / 2 ^ (64 - s)) / (y * 2 ^ s / 4294967296) * (y * 2 ^ s / 4294967296))) ?_ hgo
 intro k
 unfold bC.f
 rw [if_neg (by omega), if_neg (by omega), if_neg hne, hlz]
 simp only [Option.bind_some]
 have hws : IntKind.u64.wrap (s : Int) = s := by rw [gG]; omega
 rw [hws, if_pos (by omega), hT, if_pos (by omega), hS, if_neg hz, hS2, hS3, hor, hS4]
 generalize eU : hi * 2 ^ s + lo / 2 ^ (64 - s) = U
 generalize eL : lo % 2 ^ (64 - s) * 2 ^ s = L at *
 generalize eD : y * 2 ^ s = D at *
 rw [mask32 _ (by omega) (by omega), mask32 _ (by omega) (by omega)]
 have Xy : 0 ≤ U := by omega
 have hq0 : 0 ≤ U / (D / 4294967296) := Int.ediv_nonneg Xy (by omega)
 have hq1 := Int.ediv_le_self (a := U) (D / 4294967296) Xy
 have hc := Int.ediv_mul_add_emod U (D / 4294967296)
 have hr0 := Int.emod_nonneg U (show D / 4294967296 ≠ 0 by omega)
 have hz0 : 0 ≤ U / (D / 4294967296) * (D / 4294967296) := Int.mul_nonneg hq0 (by omega)
 have hd1 : IntKind.u64.wrap (Int.tdiv U (D / 4294967296)) = U / (D / 4294967296) := by
  rw [Int.tdiv_eq_ediv_of_nonneg Xy]
  exact wraps_u64 _ hq0 (by omega)
 rw [hd1]
 congr 1
 generalize U / (D / 4294967296) * (D / 4294967296) = Z at *
 rw [gG, gG]
 omega
theorem abx (hi lo y : Int) (h0 : 0 ≤ hi) (h1 : hi < y) (hy : y < 18446744073709551616) (hl0 : 0 ≤ lo) (hl1 : lo < 18446744073709551616) :
 Ev (fun k => bC.f k hi lo y) ((hi * 18446744073709551616 + lo) / y, (hi * 18446744073709551616 + lo) % y) := by
 by_cases hne : hi = 0
 · refine ⟨0, fun k _ => ?_⟩
   subst hne
   show bC.f k 0 lo y = _
   unfold bC.f
   rw [if_neg (by omega), if_neg (by omega), if_pos rfl, Int.zero_mul, Int.zero_add, Int.tdiv_eq_ediv_of_nonneg hl0, Int.tmod_eq_emod_of_nonneg hl0]
   have := Int.ediv_le_self (a := lo) y hl0
   rw [wraps_u64 _ (Int.ediv_nonneg hl0 (by omega)) (by omega)]
 · exact Rz hi lo y h0 h1 hy hl0 hl1 hne
end Go.Proofs.Ytninmcmajbfccaa.PQ

namespace Go.Proofs.Ytninmcmajbfccaa.PQ
open Go.RowKit Go.Proofs.aH.bK Go.Proofs.aH.dG Go.Proofs.aH.dJ
theorem abS (a b : Int) : yt.f a b = some (cl (cl a + cl b), (od a || od b) || od (cl a + cl b)) := by
 have := BC a
 have := BD a
 have := BC b
 have := BD b
 unfold yt.f
 rw [C9]
 simp only [Option.bind_some]
 rw [zZ (by omega) (by omega), EL]
 simp only [Option.bind_some]
 cases (od a || od b) <;> simp
theorem aaG (a b : Int) : yj.f a b = some (cl (cl a - cl b), (od a || od b) || od (cl a - cl b)) := by
 have := BC a
 have := BD a
 have := BC b
 have := BD b
 unfold yj.f
 rw [C9]
 simp only [Option.bind_some]
 rw [zZ (by omega) (by omega), EL]
 simp only [Option.bind_some]
 cases (od a || od b) <;> simp
def rn (N y : Int) : Int := if N % y > y - N % y then (N / y + 1) % 18446744073709551616 else if N % y = y - N % y then (if N / y % 2 = 1 then (N / y + 1) % 18446744073709551616 else N / y) else N / y
def H9 (a b : Int) : Int × Bool :=
 if cl b = 0 then (if cl a > 0 then (70368744177663, true) else if cl a < 0 then (-70368744177664, true) else (0, true))
 else if sz (cl a) / 1099511627776 ≥ sz (cl b) then ((sg 1 0 ((decide (cl a < 0)) != (decide (cl b < 0)))).1, true)
 else flag (od a || od b) (sg 0 (rn (sz (cl a) * 16777216) (sz (cl b))) ((decide (cl a < 0)) != (decide (cl b < 0))))
theorem abw (a b : Int) : Ev (fun k => rQ.f k a b) (H9 a b) := by
 have c1 := BC a
 have c2 := BD a
 have c3 := BC b
 have c4 := BD b
 have ha := OT a
 have hb := OT b
 have ha0 := Vb (cl a)
 have hb0 := Vb (cl b)
 have hbz : cl b ≠ 0 → 0 < sz (cl b) := fun h => by unfold sz at *; split at hb0 <;> split <;> omega
 by_cases h0 : cl b = 0
 · refine Ev.congr (f := fun _ => some (H9 a b)) ?_ (Ev.now _)
   intro k
   unfold rQ.f H9
   rw [C9]
   simp only [Option.bind_some]
   rw [if_pos h0, if_pos h0]
   repeat' split
   all_goals rfl
 · have hy := hbz h0
   by_cases h1 : sz (cl a) / 1099511627776 ≥ sz (cl b)
   · refine Ev.congr (f := fun _ => some (H9 a b)) ?_ (Ev.now _)
     intro k
     unfold rQ.f H9
     rw [C9]
     simp only [Option.bind_some]
     rw [if_neg h0, if_neg h0, BV _ (by omega) (by omega), BV _ (by omega) (by omega)]
     simp only [Option.bind_some]
     rw [if_pos h1, if_pos h1, EW _ _ _ (by omega)]
     rfl
   · have hdv := abx (sz (cl a) / 1099511627776) (IntKind.u64.wrap (sz (cl a) * 16777216)) (sz (cl b)) (by omega) (by omega) (by omega) (by rw [gG]; omega) (by rw [gG]; omega)
     have hN : sz (cl a) / 1099511627776 * 18446744073709551616 + IntKind.u64.wrap (sz (cl a) * 16777216) = sz (cl a) * 16777216 := by rw [gG]; omega
     rw [hN] at hdv
     obtain ⟨K, hK⟩ := hdv
     refine ⟨K, fun k hk => ?_⟩
     have hk' := hK k hk
     show rQ.f k a b = _
     unfold rQ.f H9
     rw [C9]
     simp only [Option.bind_some]
     rw [if_neg h0, if_neg h0, BV _ (by omega) (by omega), BV _ (by omega) (by omega)]
     simp only [Option.bind_some]
     rw [if_neg h1, if_neg h1]
     simp only [] at hk'
     rw [hk']
     simp only [Option.bind_some]
     generalize ((decide (cl a < 0)) != (decide (cl b < 0))) = s
     generalize (od a || od b) = o
     have hq0 : 0 ≤ sz (cl a) * 16777216 / sz (cl b) := Int.ediv_nonneg (by omega) (by omega)
     have hq1 : sz (cl a) * 16777216 / sz (cl b) < 18446744073709551616 := Int.ediv_lt_of_lt_mul hy (by omega)
     have hr0 := Int.emod_nonneg (sz (cl a) * 16777216) (show sz (cl b) ≠ 0 by omega)
     have hr1 := Int.emod_lt_of_pos (sz (cl a) * 16777216) hy
     rw [Tv _ hq0 hq1, wraps_u64 (sz (cl b) - _) (by omega) (by omega), gG]
     have k0 : 0 ≤ rn (sz (cl a) * 16777216) (sz (cl b)) := by unfold rn; repeat' split <;> omega
     rw [show (some (flag o (sg 0 (rn (sz (cl a) * 16777216) (sz (cl b))) s))) = (bF.f 0 (rn (sz (cl a) * 16777216) (sz (cl b))) s).bind fun bt => (if o = true then (some (bt.1, true)) else (some (bt.1, bt.2))) from by
      rw [EW _ _ _ k0]; simp only [Option.bind_some]; rw [H6]]
     unfold rn
     split
     · rfl
     · split
       · split <;> rfl
       · rfl
theorem ahX (a : Int) : fC.f a = some (decide (-70368744177664 ≤ a ∧ a ≤ 70368744177663)) := by
 unfold fC.f
 by_cases h : a ≥ -70368744177664
 · rw [if_pos h]
   congr 1
   rw [decide_eq_decide]
   omega
 · rw [if_neg h]
   congr 1
   symm
   simp
   omega
end Go.Proofs.Ytninmcmajbfccaa.PQ

namespace Go.Proofs.Ytninmcmajbfccaa.PQ
open Go.RowKit Go.Proofs.aH.bK Go.Proofs.aH.dG Go.Proofs.aH.dJ
attribute [local go_sem] jS jQ kT kS ji jh jR jP
set_option linter.unusedVariables false
set_option linter.unusedSimpArgs false
attribute [local go_sem high] TZ
def qc.f (a0 : Int) (a1 : Int) : Option (Int) := if (mn (mx a1 0) 62) > 0 then (if 0 ≤ ((mn (mx a1 0) 62) - 1) then (if (Go.bits .and .u64 (IntKind.u64.wrap (a0)) (IntKind.u64.wrap ((IntKind.u64.wrap (2 ^ (mn (mx a1 0) 62).toNat)) - 1))) > (IntKind.u64.wrap (2 ^ ((mn (mx a1 0) 62) - 1).toNat)) then (some (wrap64 ((a0 / 2 ^ (mn (mx a1 0) 62).toNat) + 1))) else (if (Go.bits .and .u64 (IntKind.u64.wrap (a0)) (IntKind.u64.wrap ((IntKind.u64.wrap (2 ^ (mn (mx a1 0) 62).toNat)) - 1))) = (IntKind.u64.wrap (2 ^ ((mn (mx a1 0) 62) - 1).toNat)) then (if (Go.bits .and .i64 (a0 / 2 ^ (mn (mx a1 0) 62).toNat) 1) = 1 then (some (wrap64 ((a0 / 2 ^ (mn (mx a1 0) 62).toNat) + 1))) else (some (a0 / 2 ^ (mn (mx a1 0) 62).toNat))) else (some (a0 / 2 ^ (mn (mx a1 0) 62).toNat)))) else (none)) else (some (a0 / 2 ^ (mn (mx a1 0) 62).toNat))
theorem qc.calls (a0 : Int) (a1 : Int) (r : Int) (w : World) (h : qc.f a0 a1 = some r) :
 Calls Try.prog 74 #[.int .i64 a0, .int .i64 a1] w fun e w' => e = .returned (.int .i64 r) ∧ Below w.heap.size w w' := by
 have HB := ah.mk (Below.refl w.heap.size w)
 have H : (if (mn (mx a1 0) 62) > 0 then (if 0 ≤ ((mn (mx a1 0) 62) - 1) then (if (Go.bits .and .u64 (IntKind.u64.wrap (a0)) (IntKind.u64.wrap ((IntKind.u64.wrap (2 ^ (mn (mx a1 0) 62).toNat)) - 1))) > (IntKind.u64.wrap (2 ^ ((mn (mx a1 0) 62) - 1).toNat)) then (some (wrap64 ((a0 / 2 ^ (mn (mx a1 0) 62).toNat) + 1))) else (if (Go.bits .and .u64 (IntKind.u64.wrap (a0)) (IntKind.u64.wrap ((IntKind.u64.wrap (2 ^ (mn (mx a1 0) 62).toNat)) - 1))) = (IntKind.u64.wrap (2 ^ ((mn (mx a1 0) 62) - 1).toNat)) then (if (Go.bits .and .i64 (a0 / 2 ^ (mn (mx a1 0) 62).toNat) 1) = 1 then (some (wrap64 ((a0 / 2 ^ (mn (mx a1 0) 62).toNat) + 1))) else (some (a0 / 2 ^ (mn (mx a1 0) 62).toNat))) else (some (a0 / 2 ^ (mn (mx a1 0) 62).toNat)))) else (none)) else (some (a0 / 2 ^ (mn (mx a1 0) 62).toNat))) = some r := h
 clear h
 obtain ⟨GM, Bf⟩ : ∃ j_ : Int, (mx a1 0) = j_ := ⟨_, rfl⟩
 replace H : (if (mn (GM) 62) > 0 then (if 0 ≤ ((mn (GM) 62) - 1) then (if (Go.bits .and .u64 (IntKind.u64.wrap (a0)) (IntKind.u64.wrap ((IntKind.u64.wrap (2 ^ (mn (GM) 62).toNat)) - 1))) > (IntKind.u64.wrap (2 ^ ((mn (GM) 62) - 1).toNat)) then (some (wrap64 ((a0 / 2 ^ (mn (GM) 62).toNat) + 1))) else (if (Go.bits .and .u64 (IntKind.u64.wrap (a0)) (IntKind.u64.wrap ((IntKind.u64.wrap (2 ^ (mn (GM) 62).toNat)) - 1))) = (IntKind.u64.wrap (2 ^ ((mn (GM) 62) - 1).toNat)) then (if (Go.bits .and .i64 (a0 / 2 ^ (mn (GM) 62).toNat) 1) = 1 then (some (wrap64 ((a0 / 2 ^ (mn (GM) 62).toNat) + 1))) else (some (a0 / 2 ^ (mn (GM) 62).toNat))) else (some (a0 / 2 ^ (mn (GM) 62).toNat)))) else (none)) else (some (a0 / 2 ^ (mn (GM) 62).toNat))) = some r := by first | (rw [Bf] at H; exact H) | (simp only [Bf] at H ⊢; exact H)
 (try (have akP : 0 ≤ GM := by (rw [← Bf]; unfold mx; (repeat' split) <;> omega)))
 (try (have akO : 0 ≤ GM := by omega))
 have abb : (if a1 < 0 then 0 else a1) = GM := Bf
 obtain ⟨xY, Le⟩ : ∃ j_ : Int, (mn (GM) 62) = j_ := ⟨_, rfl⟩
 replace H : (if (xY) > 0 then (if 0 ≤ ((xY) - 1) then (if (Go.bits .and .u64 (IntKind.u64.wrap (a0)) (IntKind.u64.wrap ((IntKind.u64.wrap (2 ^ (xY).toNat)) - 1))) > (IntKind.u64.wrap (2 ^ ((xY) - 1).toNat)) then (some (wrap64 ((a0 / 2 ^ (xY).toNat) + 1))) else (if (Go.bits .and .u64 (IntKind.u64.wrap (a0)) (IntKind.u64.wrap ((IntKind.u64.wrap (2 ^ (xY).toNat)) - 1))) = (IntKind.u64.wrap (2 ^ ((xY) - 1).toNat)) then (if (Go.bits .and .i64 (a0 / 2 ^ (xY).toNat) 1) = 1 then (some (wrap64 ((a0 / 2 ^ (xY).toNat) + 1))) else (some (a0 / 2 ^ (xY).toNat))) else (some (a0 / 2 ^ (xY).toNat)))) else (none)) else (some (a0 / 2 ^ (xY).toNat))) = some r := by first | (rw [Le] at H; exact H) | (simp only [Le] at H ⊢; exact H)
 have aba : (if 62 < (GM) then 62 else (GM)) = xY := Le
 by_cases c5 : (xY) > 0
 · rw [if_pos c5] at H
   have uT : decide (0 < (xY)) = true := decide_eq_true c5
   clear c5
   obtain ⟨Cf, Q9⟩ : ∃ j_ : Int, ((xY) - 1) = j_ := ⟨_, rfl⟩
   have akN : Cf ≤ 61 := by
    have h := aba
    split at h <;> omega
   replace H : (if 0 ≤ (Cf) then (if (Go.bits .and .u64 (IntKind.u64.wrap (a0)) (IntKind.u64.wrap ((IntKind.u64.wrap (2 ^ (xY).toNat)) - 1))) > (IntKind.u64.wrap (2 ^ (Cf).toNat)) then (some (wrap64 ((a0 / 2 ^ (xY).toNat) + 1))) else (if (Go.bits .and .u64 (IntKind.u64.wrap (a0)) (IntKind.u64.wrap ((IntKind.u64.wrap (2 ^ (xY).toNat)) - 1))) = (IntKind.u64.wrap (2 ^ (Cf).toNat)) then (if (Go.bits .and .i64 (a0 / 2 ^ (xY).toNat) 1) = 1 then (some (wrap64 ((a0 / 2 ^ (xY).toNat) + 1))) else (some (a0 / 2 ^ (xY).toNat))) else (some (a0 / 2 ^ (xY).toNat)))) else (none)) = some r := by first | (rw [Q9] at H; exact H) | (simp only [Q9] at H ⊢; exact H)
   by_cases c7 : 0 ≤ (Cf)
   · rw [if_pos c7] at H
     have yG := eq_true c7
     have LQ : decide (0 ≤ (Cf)) = true := decide_eq_true c7
     clear c7
     by_cases c8 : (Go.bits .and .u64 (IntKind.u64.wrap (a0)) (IntKind.u64.wrap ((IntKind.u64.wrap (2 ^ (xY).toNat)) - 1))) > (IntKind.u64.wrap (2 ^ (Cf).toNat))
     · rw [if_pos c8] at H
       have Gm : decide ((IntKind.u64.wrap (2 ^ (Cf).toNat)) < (Go.bits .and .u64 (IntKind.u64.wrap (a0)) (IntKind.u64.wrap ((IntKind.u64.wrap (2 ^ (xY).toNat)) - 1)))) = true := decide_eq_true c8
       rw [show Cf.toNat = min Cf.toNat 64 by omega] at Gm
       clear c8
       obtain rfl := Option.some.inj H
       go_enter Try.func74, Try.ntmps74
       go_wp2
       go_ret
       exact ⟨by first | rfl | (simp [aU, aT] <;> rfl) | (simp only [← Bf, ← Le, ← Q9]; first | rfl | (simp [aU, aT] <;> rfl)) | (simp [*, aU, aT] <;> rfl), by repeat (first | (with_reducible first | exact HB.out | apply au | apply af | apply ak) | exact HB.out)⟩
     · rw [if_neg c8] at H
       have Gm : decide ((IntKind.u64.wrap (2 ^ (Cf).toNat)) < (Go.bits .and .u64 (IntKind.u64.wrap (a0)) (IntKind.u64.wrap ((IntKind.u64.wrap (2 ^ (xY).toNat)) - 1)))) = false := decide_eq_false c8
       rw [show Cf.toNat = min Cf.toNat 64 by omega] at Gm
       clear c8
       have BG := eq_true (of_decide_eq_true (by first | (with_reducible assumption) | assumption) : 0 ≤ (Cf))
       by_cases c10 : (Go.bits .and .u64 (IntKind.u64.wrap (a0)) (IntKind.u64.wrap ((IntKind.u64.wrap (2 ^ (xY).toNat)) - 1))) = (IntKind.u64.wrap (2 ^ (Cf).toNat))
       · rw [if_pos c10] at H
         have yH : ((Go.bits .and .u64 (IntKind.u64.wrap (a0)) (IntKind.u64.wrap ((IntKind.u64.wrap (2 ^ (xY).toNat)) - 1))) == (IntKind.u64.wrap (2 ^ (Cf).toNat))) = true := beq_iff_eq.mpr c10
         rw [show Cf.toNat = min Cf.toNat 64 by omega] at yH
         have Gq : ((Go.bits .and .u64 (IntKind.u64.wrap (a0)) (IntKind.u64.wrap ((IntKind.u64.wrap (2 ^ (xY).toNat)) - 1))) != (IntKind.u64.wrap (2 ^ (Cf).toNat))) = false := bne_eq_false_iff_eq.mpr c10
         rw [show Cf.toNat = min Cf.toNat 64 by omega] at Gq
         clear c10
         by_cases c11 : (Go.bits .and .i64 (a0 / 2 ^ (xY).toNat) 1) = 1
         · rw [if_pos c11] at H
           have qJ : ((Go.bits .and .i64 (a0 / 2 ^ (xY).toNat) 1) == 1) = true := beq_iff_eq.mpr c11
           have BJ : ((Go.bits .and .i64 (a0 / 2 ^ (xY).toNat) 1) != 1) = false := bne_eq_false_iff_eq.mpr c11
           clear c11
           obtain rfl := Option.some.inj H
           go_enter Try.func74, Try.ntmps74
           go_wp2
           go_ret
           exact ⟨by first | rfl | (simp [aU, aT] <;> rfl) | (simp only [← Bf, ← Le, ← Q9]; first | rfl | (simp [aU, aT] <;> rfl)) | (simp [*, aU, aT] <;> rfl), by repeat (first | (with_reducible first | exact HB.out | apply au | apply af | apply ak) | exact HB.out)⟩
         · rw [if_neg c11] at H
           have qJ : ((Go.bits .and .i64 (a0 / 2 ^ (xY).toNat) 1) == 1) = false := beq_eq_false_iff_ne.mpr c11
           have BJ : ((Go.bits .and .i64 (a0 / 2 ^ (xY).toNat) 1) != 1) = true := bne_iff_ne.mpr c11
           obtain rfl := Option.some.inj H
           go_enter Try.func74, Try.ntmps74
           go_wp2
           go_ret
           exact ⟨by first | rfl | (simp [aU, aT] <;> rfl) | (simp only [← Bf, ← Le, ← Q9]; first | rfl | (simp [aU, aT] <;> rfl)) | (simp [*, aU, aT] <;> rfl), by repeat (first | (with_reducible first | exact HB.out | apply au | apply af | apply ak) | exact HB.out)⟩
       · rw [if_neg c10] at H
         have yH : ((Go.bits .and .u64 (IntKind.u64.wrap (a0)) (IntKind.u64.wrap ((IntKind.u64.wrap (2 ^ (xY).toNat)) - 1))) == (IntKind.u64.wrap (2 ^ (Cf).toNat))) = false := beq_eq_false_iff_ne.mpr c10
         rw [show Cf.toNat = min Cf.toNat 64 by omega] at yH
         have Gq : ((Go.bits .and .u64 (IntKind.u64.wrap (a0)) (IntKind.u64.wrap ((IntKind.u64.wrap (2 ^ (xY).toNat)) - 1))) != (IntKind.u64.wrap (2 ^ (Cf).toNat))) = true := bne_iff_ne.mpr c10
         rw [show Cf.toNat = min Cf.toNat 64 by omega] at Gq
         obtain rfl := Option.some.inj H
         go_enter Try.func74, Try.ntmps74
         go_wp2
         go_ret
         exact ⟨by first | rfl | (simp [aU, aT] <;> rfl) | (simp only [← Bf, ← Le, ← Q9]; first | rfl | (simp [aU, aT] <;> rfl)) | (simp [*, aU, aT] <;> rfl), by repeat (first | (with_reducible first | exact HB.out | apply au | apply af | apply ak) | exact HB.out)⟩
   · rw [if_neg c7] at H
     exact absurd H (by simp)
 · rw [if_neg c5] at H
   have uT : decide (0 < (xY)) = false := decide_eq_false c5
   clear c5
   obtain rfl := Option.some.inj H
   go_enter Try.func74, Try.ntmps74
   go_wp2
   go_ret
   exact ⟨by first | rfl | (simp [aU, aT] <;> rfl) | (simp only [← Bf, ← Le]; first | rfl | (simp [aU, aT] <;> rfl)) | (simp [*, aU, aT] <;> rfl), by repeat (first | (with_reducible first | exact HB.out | apply au | apply af | apply ak) | exact HB.out)⟩
end Go.Proofs.Ytninmcmajbfccaa.PQ

namespace Go.Proofs.Ytninmcmajbfccaa.KK
open Go.RowKit Go.Proofs.aH.bK Go.Proofs.aH.dG Go.Proofs.aH.dJ
set_option linter.unusedVariables false
set_option linter.unusedSimpArgs false
def xX (a b : Int) : Int × Bool := PQ.flag (PQ.od a || PQ.od b) (PQ.sg (PQ.sz (PQ.cl a) * PQ.sz (PQ.cl b) / 309485009821345068724781056) (PQ.lw (PQ.sz (PQ.cl a) * PQ.sz (PQ.cl b))) ((decide (PQ.cl a < 0)) != (decide (PQ.cl b < 0))))
def oC (a b : Int) : Int × Bool := (PQ.cl (PQ.cl a + PQ.cl b), (PQ.od a || PQ.od b) || PQ.od (PQ.cl a + PQ.cl b))
def sJ (a b : Int) : Int × Bool := (PQ.cl (PQ.cl a - PQ.cl b), (PQ.od a || PQ.od b) || PQ.od (PQ.cl a - PQ.cl b))
def o_ (a b : Int) : Int × Bool := ((PQ.qc.f (wrap64 (a + b)) 1).getD 0, false)
theorem zf (a b : Int) (w : World) : Calls Try.prog 35 #[I a, I b] w fun e w' => e = .returned (.tuple #[I (xX a b).1, .bool (xX a b).2]) ∧ Below w.heap.size w w' := PQ.yl.calls a b _ _ w (PQ.aaL a b)
theorem C_ (a b : Int) (w : World) : Calls Try.prog 62 #[I a, I b] w fun e w' => e = .returned (.tuple #[I (oC a b).1, .bool (oC a b).2]) ∧ Below w.heap.size w w' := PQ.yt.calls a b _ _ w (PQ.abS a b)
theorem Hq (a b : Int) (w : World) : Calls Try.prog 61 #[I a, I b] w fun e w' => e = .returned (.tuple #[I (sJ a b).1, .bool (sJ a b).2]) ∧ Below w.heap.size w w' := PQ.yj.calls a b _ _ w (PQ.aaG a b)
theorem Rf (a : Int) : ∃ h, PQ.qc.f a 1 = some h := by
 have e1 : mn (mx 1 0) 62 = 1 := by decide
 unfold PQ.qc.f
 rw [e1]
 repeat' split
 all_goals first | exact ⟨_, rfl⟩ | omega
theorem Ob (a b : Int) (w : World) : Calls Try.prog 73 #[I a, I b] w fun e w' => e = .returned (.tuple #[I (o_ a b).1, .bool (o_ a b).2]) ∧ Below w.heap.size w w' := by
 obtain ⟨h, hh⟩ := Rf (wrap64 (a + b))
 have HH := Lib.hid (PQ.qc.calls _ 1 h · hh)
 unfold o_
 rw [hh]
 go_enter Try.func73, Try.ntmps73
 go_wp2_with fail
 refine (HH.out _).mono ?_
 rintro e w' ⟨rfl, hb⟩
 have HB := Lib.hid hb
 clear hb
 go_wp2
 go_ret2
 exact ⟨rfl, HB.out⟩
theorem kH {r c i k : Nat} (hk : k < r) (hi : i < c) : k * c + i < r * c := by
 have : (k + 1) * c ≤ r * c := Nat.mul_le_mul_right c hk
 rw [Nat.succ_mul] at this
 omega
theorem J7 (r c : Nat) (A : Option Addr) (cp g : Nat) (l : List Int) (w : World) (hr : r ≤ 8) (hc : c ≤ 8) (hl : l.length = r * c) (hA : Rd w A l) (R : Row w g 26 #[I r, I c, .slice A l.length cp]) :
 BM w 79 #[.pointer (some ⟨g, 0, none⟩)] c r (fun i k => l.getD (k * c + i) 0) (fun _ _ => false) := by
 intro i k w' hi hk hb
 have R' := R.below hb R.lt
 have x := R'.cell
 have hle : r * c ≤ 8 * 8 := Nat.mul_le_mul hr hc
 have HC := Lib.hid (pF r c A cp l k i w' (hA.below hb) (by rw [hl]; exact kH hk hi) (by rw [hl]; omega))
 clear hb R R' hA hr hc hle hl
 show Calls Try.prog 79 #[I i, I k, .pointer (some ⟨g, 0, none⟩)] w' _
 go_enter Try.func79, Try.ntmps79
 go_wp2_with fail
 refine HC.out.mono ?_
 rintro e w2 ⟨rfl, hb⟩
 have HB := Lib.hid hb
 clear hb
 go_wp2
 go_ret2
 exact ⟨rfl, HB.out⟩
theorem xe (n : Nat) (cap : Array Value) (r c : Nat) (q : Nat → Nat → Int) (o : Nat → Nat → Bool) (w : World) (L : List Int) (b : Bool) (hL : upto c q r = L) (hb : yL c o r = b) (hr : r ≤ 8) (hc : c ≤ 8) (he : Enters n) (ht : BM w n cap r c q o) :
 Calls Try.prog 59 #[.agg #[I r, I c], .func (.func n) #[] cap] w fun e w' => ∃ A cp, e = .returned (.tuple #[.agg #[I r, I c, .slice A L.length cp], .bool b]) ∧ Own w' w.heap.size (.slice A L.length cp) L ∧ Below w.heap.size w w' := by
 subst hL hb
 refine (NT n cap r c q o w hr hc he ht).mono ?_
 rintro e w' ⟨v, rfl, ho, hb⟩
 obtain ⟨A, cp, rfl, _, _⟩ := ho.reads
 exact ⟨A, cp, rfl, ho, hb⟩
theorem DZ (c r : Nat) : yL c (fun _ _ => false) r = false := by simp [yL]
def AY (r c : Nat) (l : List Int) : List Int := upto r (fun i k => l.getD (k * c + i) 0) c
theorem Ud : Enters 79 := enters Try.func79 rfl rfl
theorem hmf (fn : Fn) (first cap : Array Value) (w : World) : (Instr.makeFunc fn first cap).run Try.prog w = .ok (.func fn first cap) w := rfl
theorem rO (r c : Nat) (A : Option Addr) (cp : Nat) (l : List Int) (w : World) (hr : r ≤ 8) (hc : c ≤ 8) (hl : l.length = r * c) (hA : Rd w A l) :
 Calls Try.prog 41 #[.agg #[I r, I c, .slice A l.length cp]] w fun e w' => ∃ v, e = .returned (.agg #[I c, I r, v]) ∧ Own w' w.heap.size v (AY r c l) ∧ Below w.heap.size w w' := by
 have N : Hid (fF w [(26, #[I r, I c, .slice A l.length cp]), (26, #[I 0, I 0, .slice none 0 0])] ((w.alloc (.cells #[I r, I c, .slice A l.length cp] 26)).alloc (.cells #[I 0, I 0, .slice none 0 0] 26))) := Lib.hid (((fF.none w).push (by simp) _ _).push (by simp) _ _)
 obtain ⟨L, hL⟩ : ∃ L, AY r c l = L := ⟨_, rfl⟩
 have HM := Lib.hid (xe 79 #[.pointer (some ⟨w.heap.size, 0, none⟩)] c r _ _ _ L false hL (DZ _ _) hc hr Ud (J7 r c A cp w.heap.size l _ hr hc hl (hA.below N.out.be) N.out.r0))
 rw [hL]
 clear hr hc hl hA hL
 have hmf := hmf
 go_enter Try.func41, Try.ntmps41
 go_wp2_with fail
 refine HM.out.mono ?_
 rintro e w2 ⟨A2, c2, rfl, ho, hb⟩
 have O := Lib.hid ho
 have N2 := Lib.hid (N.out.below hb)
 clear ho hb N HM
 have x1 := N2.out.r1.cell
 have g1 := N2.out.r1.free
 have t1 := N2.out.r1.lt
 go_wp2
 refine bodyPost_ret (Vg rfl rfl ((N2.out.r1.gy _ _ _).alloc _)) rfl ⟨_, rfl, ?_, (Below.gy N2.out.be (by omega) _ _ _).alloc (by have := N2.out.be.size; simp; omega) _⟩
 exact ((O.out.gy (by simp) _ _ _).alloc _).lower (by simp; omega)
end Go.Proofs.Ytninmcmajbfccaa.KK

namespace Go.Proofs.Ytninmcmajbfccaa.KK
open Go.RowKit Go.Proofs.aH.bK Go.Proofs.aH.dG Go.Proofs.aH.dJ
set_option linter.unusedVariables false
set_option linter.unusedSimpArgs false
def mV (f : Int → Int → Int × Bool) (r c : Nat) (l m : List Int) : List Int := upto c (fun i k => (f (l.getD (i * c + k) 0) (m.getD (i * c + k) 0)).1) r
def oP (f : Int → Int → Int × Bool) (r c : Nat) (l m : List Int) : Bool := yL c (fun i k => (f (l.getD (i * c + k) 0) (m.getD (i * c + k) 0)).2) r
attribute [local go_sem high] PQ.TZ
theorem uC (r c : Int) (A : Option Addr) (l : List Int) (cp : Nat) (w : World) (hA : Rd w A l) (hc : l.length ≤ cp) : Calls Try.prog 77 #[.agg #[I r, I c, .slice A l.length cp]] w fun e w' => e = .returned (.agg #[I r, I c]) ∧ Below w.heap.size w w' :=
 PQ.sO.calls r c A cp l r c w hA hc rfl
theorem Gg : Enters 91 := enters Try.func91 rfl rfl
theorem QH (r c : Nat) (A A' : Option Addr) (cp cp' : Nat) (n g : Nat) (l m : List Int) (w : World) (hr : r ≤ 8) (hc : c ≤ 8) (hl : l.length = r * c) (hm : m.length = r * c) (hA : Rd w A l) (hA' : Rd w A' m)
 (D : Row w n 82 #[.func (.func 62) #[] #[]]) (R : Row w g 26 #[I r, I c, .slice A l.length cp]) (R' : Row w (g + 1) 26 #[I r, I c, .slice A' m.length cp']) (hn : True) :
 BM w 91 #[.pointer (some ⟨n, 0, none⟩), .pointer (some ⟨g, 0, none⟩), .pointer (some ⟨g + 1, 0, none⟩)] r c (fun i k => (oC (l.getD (i * c + k) 0) (m.getD (i * c + k) 0)).1) (fun i k => (oC (l.getD (i * c + k) 0) (m.getD (i * c + k) 0)).2) := by
 intro i k w' hi hk hb
 have D1 := Lib.hid (D.below hb D.lt)
 have R1 := Lib.hid (R.below hb R.lt)
 have R2 := Lib.hid (R'.below hb R'.lt)
 have hle : r * c ≤ 8 * 8 := Nat.mul_le_mul hr hc
 have hlt : i * c + k < r * c := kH hi hk
 have H1 := Lib.hid (fun w' h => pF r c A cp l i k w' h (by rw [hl]; exact hlt) (by rw [hl]; omega))
 have H2 := Lib.hid (fun w' h => pF r c A' cp' m i k w' h (by rw [hm]; exact hlt) (by rw [hm]; omega))
 have A1 := Lib.hid (hA.below hb)
 have A2 := Lib.hid (hA'.below hb)
 obtain ⟨x, hx⟩ : ∃ x, l.getD (i * c + k) 0 = x := ⟨_, rfl⟩
 obtain ⟨y, hy⟩ : ∃ y, m.getD (i * c + k) 0 = y := ⟨_, rfl⟩
 rw [hx] at H1
 rw [hy] at H2
 show Calls Try.prog 91 #[I i, I k, .pointer (some ⟨n, 0, none⟩), .pointer (some ⟨g, 0, none⟩), .pointer (some ⟨g + 1, 0, none⟩)] w' fun e w'' => e = .returned (.tuple #[I (oC (l.getD (i * c + k) 0) (m.getD (i * c + k) 0)).1, .bool (oC (l.getD (i * c + k) 0) (m.getD (i * c + k) 0)).2]) ∧ Below w'.heap.size w' w''
 rw [hx, hy]
 have H3 := Lib.hid (fun w => C_ x y w)
 obtain ⟨z, hz⟩ : ∃ z, oC x y = z := ⟨_, rfl⟩
 rw [hz] at H3 ⊢
 obtain ⟨z1, z2⟩ := z
 clear hb R R' D hA hA' hr hc hle hl hm hx hy hz hlt
 have K : Hid (∀ w2, Below w'.heap.size w' w2 → (∀ o, w2.cell? ⟨n, o, none⟩ = #[.func (.func 62) #[] #[]][o]?) ∧ (∀ o, w2.cell? ⟨g, o, none⟩ = #[I r, I c, .slice A l.length cp][o]?) ∧ (∀ o, w2.cell? ⟨g + 1, o, none⟩ = #[I r, I c, .slice A' m.length cp'][o]?)) := Lib.hid (fun w2 hb => ⟨(D1.out.below hb D1.out.lt).cell, (R1.out.below hb R1.out.lt).cell, (R2.out.below hb R2.out.lt).cell⟩)
 have B0 := Lib.hid (Below.refl w'.heap.size w')
 have B1 := Lib.hid B0.out.drew
 have x1 := D1.out.cell
 have x2 := R1.out.cell
 have x3 := R2.out.cell
 clear D1 R1 R2
 go_enter Try.func91, Try.ntmps91
 go_wp2_with fail
 go_region_held3 (fun w2 => (∀ o, w2.cell? ⟨n, o, none⟩ = #[.func (.func 62) #[] #[]][o]?) ∧ (∀ o, w2.cell? ⟨g, o, none⟩ = #[I r, I c, .slice A l.length cp][o]?) ∧ (∀ o, w2.cell? ⟨g + 1, o, none⟩ = #[I r, I c, .slice A' m.length cp'][o]?))
  (first | with_reducible exact K.out _ B4.out | with_reducible exact K.out _ B3.out | with_reducible exact K.out _ B2.out | with_reducible exact K.out _ B1.out | with_reducible exact K.out _ B0.out)
  (first
    | (go_at_call 62
       refine (H3.out _).mono ?_
       rintro e w4 ⟨rfl, hb⟩
       have B4 := Lib.hid (B3.out.trans (hb.mono B3.out.size))
       clear hb)
    | (go_at_call 80
       refine (H2.out _ (A2.out.below B2.out)).mono ?_
       rintro e w3 ⟨rfl, hb⟩
       have B3 := Lib.hid (B2.out.trans (hb.mono B2.out.size))
       clear hb)
    | (go_at_call 80
       refine (H1.out _ (A1.out.below B1.out)).mono ?_
       rintro e w2 ⟨rfl, hb⟩
       have B2 := Lib.hid (B1.out.trans (hb.mono B1.out.size))
       clear hb))
 all_goals
  go_wp2
  go_ret2
  exact ⟨rfl, B4.out⟩
theorem Uh (r c : Nat) (A A' : Option Addr) (cp cp' : Nat) (l m : List Int) (w : World) (hr : r ≤ 8) (hc : c ≤ 8) (hl : l.length = r * c) (hm : m.length = r * c) (hA : Rd w A l) (hA' : Rd w A' m) (hcp : l.length ≤ cp) (Bq : m.length ≤ cp') :
 Calls Try.prog 72 #[.agg #[I r, I c, (.slice A l.length cp)], .agg #[I r, I c, (.slice A' m.length cp')], .func (.func 62) #[] #[]] w fun e w' => ∃ A2 c2, e = .returned (.tuple #[.agg #[I r, I c, .slice A2 (mV oC r c l m).length c2], .bool (oP oC r c l m), I 0]) ∧ Own w' w.heap.size (.slice A2 (mV oC r c l m).length c2) (mV oC r c l m) ∧ Below w.heap.size w w' := by
 have N : Hid (fF w [(26, #[I r, I c, (.slice A l.length cp)]), (26, #[I r, I c, (.slice A' m.length cp')]), (82, #[.func (.func 62) #[] #[]]), (26, #[I 0, I 0, .slice none 0 0])] ((((w.alloc (.cells #[I r, I c, (.slice A l.length cp)] 26)).alloc (.cells #[I r, I c, (.slice A' m.length cp')] 26)).alloc (.cells #[.func (.func 62) #[] #[]] 82)).alloc (.cells #[I 0, I 0, .slice none 0 0] 26))) := Lib.hid (((((fF.none w).push (by simp) _ _).push (by simp) _ _).push (by simp) _ _).push (by simp) _ _)
 have O1 := Lib.hid (fun w' h => uC r c A l cp w' h hcp)
 have O2 := Lib.hid (fun w' h => uC r c A' m cp' w' h Bq)
 have HA := Lib.hid hA
 have HA' := Lib.hid hA'
 obtain ⟨L, hL⟩ : ∃ L, mV oC r c l m = L := ⟨_, rfl⟩
 obtain ⟨b, hb⟩ : ∃ b, oP oC r c l m = b := ⟨_, rfl⟩
 have HM := Lib.hid (fun w' (h : fF w [(26, #[I r, I c, (.slice A l.length cp)]), (26, #[I r, I c, (.slice A' m.length cp')]), (82, #[.func (.func 62) #[] #[]]), (26, #[I 0, I 0, .slice none 0 0])] w') => xe 91 #[.pointer (some ⟨w.heap.size + 1 + 1, 0, none⟩), .pointer (some ⟨w.heap.size, 0, none⟩), .pointer (some ⟨w.heap.size + 1, 0, none⟩)] r c _ _ w' L b hL hb hr hc Gg (QH r c A A' cp cp' _ w.heap.size l m w' hr hc hl hm (hA.below h.be) (hA'.below h.be) h.r2 h.r0 h.r1 trivial))
 rw [hL, hb]
 clear hr hc hl hm hA hA' hcp Bq hL hb
 have KK : Hid (∀ w', fF w [(26, #[I r, I c, (.slice A l.length cp)]), (26, #[I r, I c, (.slice A' m.length cp')]), (82, #[.func (.func 62) #[] #[]]), (26, #[I 0, I 0, .slice none 0 0])] w' → (∀ o, w'.cell? ⟨w.heap.size, o, none⟩ = #[I r, I c, (.slice A l.length cp)][o]?) ∧ (∀ o, w'.cell? ⟨w.heap.size + 1, o, none⟩ = #[I r, I c, (.slice A' m.length cp')][o]?)) := Lib.hid (fun w' h => ⟨h.r0.cell, h.r1.cell⟩)
 have y0 := N.out.r0.cell
 have y1 := N.out.r1.cell
 go_enter Try.func72, Try.ntmps72
 go_wp2_with fail
 go_region_held3 (fun w' => (∀ o, w'.cell? ⟨w.heap.size, o, none⟩ = #[I r, I c, (.slice A l.length cp)][o]?) ∧ (∀ o, w'.cell? ⟨w.heap.size + 1, o, none⟩ = #[I r, I c, (.slice A' m.length cp')][o]?))
  (first | with_reducible exact KK.out _ N3.out | with_reducible exact KK.out _ N2.out | with_reducible exact KK.out _ N.out.drew | with_reducible exact KK.out _ N.out)
  (first
    | (go_at_call 77
       refine (O2.out _ (HA'.out.below N2.out.be)).mono ?_
       rintro e w3 ⟨rfl, hb⟩
       have N3 := Lib.hid (N2.out.below hb)
       clear hb)
    | (go_at_call 77
       refine (O1.out _ (HA.out.below N.out.drew.be)).mono ?_
       rintro e w2 ⟨rfl, hb⟩
       have N2 := Lib.hid (N.out.drew.below hb)
       clear hb))
 have x1 := N3.out.r0.cell
 have t1 := N3.out.r0.lt
 have hmf := hmf
 go_wp2_with (go_at_call 77
              refine (O1.out _ (HA.out.below N3.out.be)).mono ?_
              rintro e w4 ⟨rfl, hb⟩
              have N4 := Lib.hid (N3.out.below hb)
              clear hb)
 refine (HM.out _ N4.out).mono ?_
 rintro e w5 ⟨A2, c2, rfl, ho, hb⟩
 have O := Lib.hid ho
 have N5 := Lib.hid (N4.out.below hb)
 have S4 := N4.out.be.size
 have L4 := N4.out.r3.lt
 clear ho hb x1 t1
 have x3 := N5.out.r3.cell
 have g3 := N5.out.r3.free
 have t3 := N5.out.r3.lt
 go_wp2
 refine bodyPost_ret (yf rfl rfl ((N5.out.r3.gy _ _ _).alloc _)) rfl ⟨_, _, rfl, ?_, (Below.gy N5.out.be (by omega) _ _ _).alloc (by have := N5.out.be.size; simp; omega) _⟩
 exact ((O.out.gy (by omega) _ _ _).alloc _).lower (by omega)
theorem QF (r c : Nat) (A A' : Option Addr) (cp cp' : Nat) (n g : Nat) (l m : List Int) (w : World) (hr : r ≤ 8) (hc : c ≤ 8) (hl : l.length = r * c) (hm : m.length = r * c) (hA : Rd w A l) (hA' : Rd w A' m)
 (D : Row w n 82 #[.func (.func 61) #[] #[]]) (R : Row w g 26 #[I r, I c, .slice A l.length cp]) (R' : Row w (g + 1) 26 #[I r, I c, .slice A' m.length cp']) (hn : True) :
 BM w 91 #[.pointer (some ⟨n, 0, none⟩), .pointer (some ⟨g, 0, none⟩), .pointer (some ⟨g + 1, 0, none⟩)] r c (fun i k => (sJ (l.getD (i * c + k) 0) (m.getD (i * c + k) 0)).1) (fun i k => (sJ (l.getD (i * c + k) 0) (m.getD (i * c + k) 0)).2) := by
 intro i k w' hi hk hb
 have D1 := Lib.hid (D.below hb D.lt)
 have R1 := Lib.hid (R.below hb R.lt)
 have R2 := Lib.hid (R'.below hb R'.lt)
 have hle : r * c ≤ 8 * 8 := Nat.mul_le_mul hr hc
 have hlt : i * c + k < r * c := kH hi hk
 have H1 := Lib.hid (fun w' h => pF r c A cp l i k w' h (by rw [hl]; exact hlt) (by rw [hl]; omega))
 have H2 := Lib.hid (fun w' h => pF r c A' cp' m i k w' h (by rw [hm]; exact hlt) (by rw [hm]; omega))
 have A1 := Lib.hid (hA.below hb)
 have A2 := Lib.hid (hA'.below hb)
 obtain ⟨x, hx⟩ : ∃ x, l.getD (i * c + k) 0 = x := ⟨_, rfl⟩
 obtain ⟨y, hy⟩ : ∃ y, m.getD (i * c + k) 0 = y := ⟨_, rfl⟩
 rw [hx] at H1
 rw [hy] at H2
 show Calls Try.prog 91 #[I i, I k, .pointer (some ⟨n, 0, none⟩), .pointer (some ⟨g, 0, none⟩), .pointer (some ⟨g + 1, 0, none⟩)] w' fun e w'' => e = .returned (.tuple #[I (sJ (l.getD (i * c + k) 0) (m.getD (i * c + k) 0)).1, .bool (sJ (l.getD (i * c + k) 0) (m.getD (i * c + k) 0)).2]) ∧ Below w'.heap.size w' w''
 rw [hx, hy]
 have H3 := Lib.hid (fun w => Hq x y w)
 obtain ⟨z, hz⟩ : ∃ z, sJ x y = z := ⟨_, rfl⟩
 rw [hz] at H3 ⊢
 obtain ⟨z1, z2⟩ := z
 clear hb R R' D hA hA' hr hc hle hl hm hx hy hz hlt
 have K : Hid (∀ w2, Below w'.heap.size w' w2 → (∀ o, w2.cell? ⟨n, o, none⟩ = #[.func (.func 61) #[] #[]][o]?) ∧ (∀ o, w2.cell? ⟨g, o, none⟩ = #[I r, I c, .slice A l.length cp][o]?) ∧ (∀ o, w2.cell? ⟨g + 1, o, none⟩ = #[I r, I c, .slice A' m.length cp'][o]?)) := Lib.hid (fun w2 hb => ⟨(D1.out.below hb D1.out.lt).cell, (R1.out.below hb R1.out.lt).cell, (R2.out.below hb R2.out.lt).cell⟩)
 have B0 := Lib.hid (Below.refl w'.heap.size w')
 have B1 := Lib.hid B0.out.drew
 have x1 := D1.out.cell
 have x2 := R1.out.cell
 have x3 := R2.out.cell
 clear D1 R1 R2
 go_enter Try.func91, Try.ntmps91
 go_wp2_with fail
 go_region_held3 (fun w2 => (∀ o, w2.cell? ⟨n, o, none⟩ = #[.func (.func 61) #[] #[]][o]?) ∧ (∀ o, w2.cell? ⟨g, o, none⟩ = #[I r, I c, .slice A l.length cp][o]?) ∧ (∀ o, w2.cell? ⟨g + 1, o, none⟩ = #[I r, I c, .slice A' m.length cp'][o]?))
  (first | with_reducible exact K.out _ B4.out | with_reducible exact K.out _ B3.out | with_reducible exact K.out _ B2.out | with_reducible exact K.out _ B1.out | with_reducible exact K.out _ B0.out)
  (first
    | (go_at_call 61
       refine (H3.out _).mono ?_
       rintro e w4 ⟨rfl, hb⟩
       have B4 := Lib.hid (B3.out.trans (hb.mono B3.out.size))
       clear hb)
    | (go_at_call 80
       refine (H2.out _ (A2.out.below B2.out)).mono ?_
       rintro e w3 ⟨rfl, hb⟩
       have B3 := Lib.hid (B2.out.trans (hb.mono B2.out.size))
       clear hb)
    | (go_at_call 80
       refine (H1.out _ (A1.out.below B1.out)).mono ?_
       rintro e w2 ⟨rfl, hb⟩
       have B2 := Lib.hid (B1.out.trans (hb.mono B1.out.size))
       clear hb))
 all_goals
  go_wp2
  go_ret2
  exact ⟨rfl, B4.out⟩
theorem Ug (r c : Nat) (A A' : Option Addr) (cp cp' : Nat) (l m : List Int) (w : World) (hr : r ≤ 8) (hc : c ≤ 8) (hl : l.length = r * c) (hm : m.length = r * c) (hA : Rd w A l) (hA' : Rd w A' m) (hcp : l.length ≤ cp) (Bq : m.length ≤ cp') :
 Calls Try.prog 72 #[.agg #[I r, I c, (.slice A l.length cp)], .agg #[I r, I c, (.slice A' m.length cp')], .func (.func 61) #[] #[]] w fun e w' => ∃ A2 c2, e = .returned (.tuple #[.agg #[I r, I c, .slice A2 (mV sJ r c l m).length c2], .bool (oP sJ r c l m), I 0]) ∧ Own w' w.heap.size (.slice A2 (mV sJ r c l m).length c2) (mV sJ r c l m) ∧ Below w.heap.size w w' := by
 have N : Hid (fF w [(26, #[I r, I c, (.slice A l.length cp)]), (26, #[I r, I c, (.slice A' m.length cp')]), (82, #[.func (.func 61) #[] #[]]), (26, #[I 0, I 0, .slice none 0 0])] ((((w.alloc (.cells #[I r, I c, (.slice A l.length cp)] 26)).alloc (.cells #[I r, I c, (.slice A' m.length cp')] 26)).alloc (.cells #[.func (.func 61) #[] #[]] 82)).alloc (.cells #[I 0, I 0, .slice none 0 0] 26))) := Lib.hid (((((fF.none w).push (by simp) _ _).push (by simp) _ _).push (by simp) _ _).push (by simp) _ _)
 have O1 := Lib.hid (fun w' h => uC r c A l cp w' h hcp)
 have O2 := Lib.hid (fun w' h => uC r c A' m cp' w' h Bq)
 have HA := Lib.hid hA
 have HA' := Lib.hid hA'
 obtain ⟨L, hL⟩ : ∃ L, mV sJ r c l m = L := ⟨_, rfl⟩
 obtain ⟨b, hb⟩ : ∃ b, oP sJ r c l m = b := ⟨_, rfl⟩
 have HM := Lib.hid (fun w' (h : fF w [(26, #[I r, I c, (.slice A l.length cp)]), (26, #[I r, I c, (.slice A' m.length cp')]), (82, #[.func (.func 61) #[] #[]]), (26, #[I 0, I 0, .slice none 0 0])] w') => xe 91 #[.pointer (some ⟨w.heap.size + 1 + 1, 0, none⟩), .pointer (some ⟨w.heap.size, 0, none⟩), .pointer (some ⟨w.heap.size + 1, 0, none⟩)] r c _ _ w' L b hL hb hr hc Gg (QF r c A A' cp cp' _ w.heap.size l m w' hr hc hl hm (hA.below h.be) (hA'.below h.be) h.r2 h.r0 h.r1 trivial))
 rw [hL, hb]
 clear hr hc hl hm hA hA' hcp Bq hL hb
 have KK : Hid (∀ w', fF w [(26, #[I r, I c, (.slice A l.length cp)]), (26, #[I r, I c, (.slice A' m.length cp')]), (82, #[.func (.func 61) #[] #[]]), (26, #[I 0, I 0, .slice none 0 0])] w' → (∀ o, w'.cell? ⟨w.heap.size, o, none⟩ = #[I r, I c, (.slice A l.length cp)][o]?) ∧ (∀ o, w'.cell? ⟨w.heap.size + 1, o, none⟩ = #[I r, I c, (.slice A' m.length cp')][o]?)) := Lib.hid (fun w' h => ⟨h.r0.cell, h.r1.cell⟩)
 have y0 := N.out.r0.cell
 have y1 := N.out.r1.cell
 go_enter Try.func72, Try.ntmps72
 go_wp2_with fail
 go_region_held3 (fun w' => (∀ o, w'.cell? ⟨w.heap.size, o, none⟩ = #[I r, I c, (.slice A l.length cp)][o]?) ∧ (∀ o, w'.cell? ⟨w.heap.size + 1, o, none⟩ = #[I r, I c, (.slice A' m.length cp')][o]?))
  (first | with_reducible exact KK.out _ N3.out | with_reducible exact KK.out _ N2.out | with_reducible exact KK.out _ N.out.drew | with_reducible exact KK.out _ N.out)
  (first
    | (go_at_call 77
       refine (O2.out _ (HA'.out.below N2.out.be)).mono ?_
       rintro e w3 ⟨rfl, hb⟩
       have N3 := Lib.hid (N2.out.below hb)
       clear hb)
    | (go_at_call 77
       refine (O1.out _ (HA.out.below N.out.drew.be)).mono ?_
       rintro e w2 ⟨rfl, hb⟩
       have N2 := Lib.hid (N.out.drew.below hb)
       clear hb))
 have x1 := N3.out.r0.cell
 have t1 := N3.out.r0.lt
 have hmf := hmf
 go_wp2_with (go_at_call 77
              refine (O1.out _ (HA.out.below N3.out.be)).mono ?_
              rintro e w4 ⟨rfl, hb⟩
              have N4 := Lib.hid (N3.out.below hb)
              clear hb)
 refine (HM.out _ N4.out).mono ?_
 rintro e w5 ⟨A2, c2, rfl, ho, hb⟩
 have O := Lib.hid ho
 have N5 := Lib.hid (N4.out.below hb)
 have S4 := N4.out.be.size
 have L4 := N4.out.r3.lt
 clear ho hb x1 t1
 have x3 := N5.out.r3.cell
 have g3 := N5.out.r3.free
 have t3 := N5.out.r3.lt
 go_wp2
 refine bodyPost_ret (yf rfl rfl ((N5.out.r3.gy _ _ _).alloc _)) rfl ⟨_, _, rfl, ?_, (Below.gy N5.out.be (by omega) _ _ _).alloc (by have := N5.out.be.size; simp; omega) _⟩
 exact ((O.out.gy (by omega) _ _ _).alloc _).lower (by omega)
theorem MW (r c : Nat) (A A' : Option Addr) (cp cp' : Nat) (n g : Nat) (l m : List Int) (w : World) (hr : r ≤ 8) (hc : c ≤ 8) (hl : l.length = r * c) (hm : m.length = r * c) (hA : Rd w A l) (hA' : Rd w A' m)
 (D : Row w n 82 #[.func (.func 73) #[] #[]]) (R : Row w g 26 #[I r, I c, .slice A l.length cp]) (R' : Row w (g + 1) 26 #[I r, I c, .slice A' m.length cp']) (hn : True) :
 BM w 91 #[.pointer (some ⟨n, 0, none⟩), .pointer (some ⟨g, 0, none⟩), .pointer (some ⟨g + 1, 0, none⟩)] r c (fun i k => (o_ (l.getD (i * c + k) 0) (m.getD (i * c + k) 0)).1) (fun i k => (o_ (l.getD (i * c + k) 0) (m.getD (i * c + k) 0)).2) := by
 intro i k w' hi hk hb
 have D1 := Lib.hid (D.below hb D.lt)
 have R1 := Lib.hid (R.below hb R.lt)
 have R2 := Lib.hid (R'.below hb R'.lt)
 have hle : r * c ≤ 8 * 8 := Nat.mul_le_mul hr hc
 have hlt : i * c + k < r * c := kH hi hk
 have H1 := Lib.hid (fun w' h => pF r c A cp l i k w' h (by rw [hl]; exact hlt) (by rw [hl]; omega))
 have H2 := Lib.hid (fun w' h => pF r c A' cp' m i k w' h (by rw [hm]; exact hlt) (by rw [hm]; omega))
 have A1 := Lib.hid (hA.below hb)
 have A2 := Lib.hid (hA'.below hb)
 obtain ⟨x, hx⟩ : ∃ x, l.getD (i * c + k) 0 = x := ⟨_, rfl⟩
 obtain ⟨y, hy⟩ : ∃ y, m.getD (i * c + k) 0 = y := ⟨_, rfl⟩
 rw [hx] at H1
 rw [hy] at H2
 show Calls Try.prog 91 #[I i, I k, .pointer (some ⟨n, 0, none⟩), .pointer (some ⟨g, 0, none⟩), .pointer (some ⟨g + 1, 0, none⟩)] w' fun e w'' => e = .returned (.tuple #[I (o_ (l.getD (i * c + k) 0) (m.getD (i * c + k) 0)).1, .bool (o_ (l.getD (i * c + k) 0) (m.getD (i * c + k) 0)).2]) ∧ Below w'.heap.size w' w''
 rw [hx, hy]
 have H3 := Lib.hid (fun w => Ob x y w)
 obtain ⟨z, hz⟩ : ∃ z, o_ x y = z := ⟨_, rfl⟩
 rw [hz] at H3 ⊢
 obtain ⟨z1, z2⟩ := z
 clear hb R R' D hA hA' hr hc hle hl hm hx hy hz hlt
 have K : Hid (∀ w2, Below w'.heap.size w' w2 → (∀ o, w2.cell? ⟨n, o, none⟩ = #[.func (.func 73) #[] #[]][o]?) ∧ (∀ o, w2.cell? ⟨g, o, none⟩ = #[I r, I c, .slice A l.length cp][o]?) ∧ (∀ o, w2.cell? ⟨g + 1, o, none⟩ = #[I r, I c, .slice A' m.length cp'][o]?)) := Lib.hid (fun w2 hb => ⟨(D1.out.below hb D1.out.lt).cell, (R1.out.below hb R1.out.lt).cell, (R2.out.below hb R2.out.lt).cell⟩)
 have B0 := Lib.hid (Below.refl w'.heap.size w')
 have B1 := Lib.hid B0.out.drew
 have x1 := D1.out.cell
 have x2 := R1.out.cell
 have x3 := R2.out.cell
 clear D1 R1 R2
 go_enter Try.func91, Try.ntmps91
 go_wp2_with fail
 go_region_held3 (fun w2 => (∀ o, w2.cell? ⟨n, o, none⟩ = #[.func (.func 73) #[] #[]][o]?) ∧ (∀ o, w2.cell? ⟨g, o, none⟩ = #[I r, I c, .slice A l.length cp][o]?) ∧ (∀ o, w2.cell? ⟨g + 1, o, none⟩ = #[I r, I c, .slice A' m.length cp'][o]?))
  (first | with_reducible exact K.out _ B4.out | with_reducible exact K.out _ B3.out | with_reducible exact K.out _ B2.out | with_reducible exact K.out _ B1.out | with_reducible exact K.out _ B0.out)
  (first
    | (go_at_call 73
       refine (H3.out _).mono ?_
       rintro e w4 ⟨rfl, hb⟩
       have B4 := Lib.hid (B3.out.trans (hb.mono B3.out.size))
       clear hb)
    | (go_at_call 80
       refine (H2.out _ (A2.out.below B2.out)).mono ?_
       rintro e w3 ⟨rfl, hb⟩
       have B3 := Lib.hid (B2.out.trans (hb.mono B2.out.size))
       clear hb)
    | (go_at_call 80
       refine (H1.out _ (A1.out.below B1.out)).mono ?_
       rintro e w2 ⟨rfl, hb⟩
       have B2 := Lib.hid (B1.out.trans (hb.mono B1.out.size))
       clear hb))
 all_goals
  go_wp2
  go_ret2
  exact ⟨rfl, B4.out⟩
theorem Ru (r c : Nat) (A A' : Option Addr) (cp cp' : Nat) (l m : List Int) (w : World) (hr : r ≤ 8) (hc : c ≤ 8) (hl : l.length = r * c) (hm : m.length = r * c) (hA : Rd w A l) (hA' : Rd w A' m) (hcp : l.length ≤ cp) (Bq : m.length ≤ cp') :
 Calls Try.prog 72 #[.agg #[I r, I c, (.slice A l.length cp)], .agg #[I r, I c, (.slice A' m.length cp')], .func (.func 73) #[] #[]] w fun e w' => ∃ A2 c2, e = .returned (.tuple #[.agg #[I r, I c, .slice A2 (mV o_ r c l m).length c2], .bool (oP o_ r c l m), I 0]) ∧ Own w' w.heap.size (.slice A2 (mV o_ r c l m).length c2) (mV o_ r c l m) ∧ Below w.heap.size w w' := by
 have N : Hid (fF w [(26, #[I r, I c, (.slice A l.length cp)]), (26, #[I r, I c, (.slice A' m.length cp')]), (82, #[.func (.func 73) #[] #[]]), (26, #[I 0, I 0, .slice none 0 0])] ((((w.alloc (.cells #[I r, I c, (.slice A l.length cp)] 26)).alloc (.cells #[I r, I c, (.slice A' m.length cp')] 26)).alloc (.cells #[.func (.func 73) #[] #[]] 82)).alloc (.cells #[I 0, I 0, .slice none 0 0] 26))) := Lib.hid (((((fF.none w).push (by simp) _ _).push (by simp) _ _).push (by simp) _ _).push (by simp) _ _)
 have O1 := Lib.hid (fun w' h => uC r c A l cp w' h hcp)
 have O2 := Lib.hid (fun w' h => uC r c A' m cp' w' h Bq)
 have HA := Lib.hid hA
 have HA' := Lib.hid hA'
 obtain ⟨L, hL⟩ : ∃ L, mV o_ r c l m = L := ⟨_, rfl⟩
 obtain ⟨b, hb⟩ : ∃ b, oP o_ r c l m = b := ⟨_, rfl⟩
 have HM := Lib.hid (fun w' (h : fF w [(26, #[I r, I c, (.slice A l.length cp)]), (26, #[I r, I c, (.slice A' m.length cp')]), (82, #[.func (.func 73) #[] #[]]), (26, #[I 0, I 0, .slice none 0 0])] w') => xe 91 #[.pointer (some ⟨w.heap.size + 1 + 1, 0, none⟩), .pointer (some ⟨w.heap.size, 0, none⟩), .pointer (some ⟨w.heap.size + 1, 0, none⟩)] r c _ _ w' L b hL hb hr hc Gg (MW r c A A' cp cp' _ w.heap.size l m w' hr hc hl hm (hA.below h.be) (hA'.below h.be) h.r2 h.r0 h.r1 trivial))
 rw [hL, hb]
 clear hr hc hl hm hA hA' hcp Bq hL hb
 have KK : Hid (∀ w', fF w [(26, #[I r, I c, (.slice A l.length cp)]), (26, #[I r, I c, (.slice A' m.length cp')]), (82, #[.func (.func 73) #[] #[]]), (26, #[I 0, I 0, .slice none 0 0])] w' → (∀ o, w'.cell? ⟨w.heap.size, o, none⟩ = #[I r, I c, (.slice A l.length cp)][o]?) ∧ (∀ o, w'.cell? ⟨w.heap.size + 1, o, none⟩ = #[I r, I c, (.slice A' m.length cp')][o]?)) := Lib.hid (fun w' h => ⟨h.r0.cell, h.r1.cell⟩)
 have y0 := N.out.r0.cell
 have y1 := N.out.r1.cell
 go_enter Try.func72, Try.ntmps72
 go_wp2_with fail
 go_region_held3 (fun w' => (∀ o, w'.cell? ⟨w.heap.size, o, none⟩ = #[I r, I c, (.slice A l.length cp)][o]?) ∧ (∀ o, w'.cell? ⟨w.heap.size + 1, o, none⟩ = #[I r, I c, (.slice A' m.length cp')][o]?))
  (first | with_reducible exact KK.out _ N3.out | with_reducible exact KK.out _ N2.out | with_reducible exact KK.out _ N.out.drew | with_reducible exact KK.out _ N.out)
  (first
    | (go_at_call 77
       refine (O2.out _ (HA'.out.below N2.out.be)).mono ?_
       rintro e w3 ⟨rfl, hb⟩
       have N3 := Lib.hid (N2.out.below hb)
       clear hb)
    | (go_at_call 77
       refine (O1.out _ (HA.out.below N.out.drew.be)).mono ?_
       rintro e w2 ⟨rfl, hb⟩
       have N2 := Lib.hid (N.out.drew.below hb)
       clear hb))
 have x1 := N3.out.r0.cell
 have t1 := N3.out.r0.lt
 have hmf := hmf
 go_wp2_with (go_at_call 77
              refine (O1.out _ (HA.out.below N3.out.be)).mono ?_
              rintro e w4 ⟨rfl, hb⟩
              have N4 := Lib.hid (N3.out.below hb)
              clear hb)
 refine (HM.out _ N4.out).mono ?_
 rintro e w5 ⟨A2, c2, rfl, ho, hb⟩
 have O := Lib.hid ho
 have N5 := Lib.hid (N4.out.below hb)
 have S4 := N4.out.be.size
 have L4 := N4.out.r3.lt
 clear ho hb x1 t1
 have x3 := N5.out.r3.cell
 have g3 := N5.out.r3.free
 have t3 := N5.out.r3.lt
 go_wp2
 refine bodyPost_ret (yf rfl rfl ((N5.out.r3.gy _ _ _).alloc _)) rfl ⟨_, _, rfl, ?_, (Below.gy N5.out.be (by omega) _ _ _).alloc (by have := N5.out.be.size; simp; omega) _⟩
 exact ((O.out.gy (by omega) _ _ _).alloc _).lower (by omega)
theorem OY (r c : Nat) (A A' : Option Addr) (cp cp' : Nat) (l m : List Int) (w : World) (hr : r ≤ 8) (hc : c ≤ 8) (hl : l.length = r * c) (hm : m.length = r * c) (hA : Rd w A l) (hA' : Rd w A' m) (hcp : l.length ≤ cp) (Bq : m.length ≤ cp') :
 Calls Try.prog 47 #[.agg #[I r, I c, (.slice A l.length cp)], .agg #[I r, I c, (.slice A' m.length cp')]] w fun e w' => ∃ v, e = .returned (.tuple #[.agg #[I r, I c, v], .bool (oP oC r c l m), I 0]) ∧ Own w' w.heap.size v (mV oC r c l m) ∧ Below w.heap.size w w' := by
 have N : Hid (fF w [(26, #[I r, I c, (.slice A l.length cp)]), (26, #[I r, I c, (.slice A' m.length cp')]), (26, #[I 0, I 0, .slice none 0 0])] (((w.alloc (.cells #[I r, I c, (.slice A l.length cp)] 26)).alloc (.cells #[I r, I c, (.slice A' m.length cp')] 26)).alloc (.cells #[I 0, I 0, .slice none 0 0] 26))) := Lib.hid ((((fF.none w).push (by simp) _ _).push (by simp) _ _).push (by simp) _ _)
 have HM := Lib.hid (Uh r c A A' cp cp' l m _ hr hc hl hm (hA.below N.out.be) (hA'.below N.out.be) hcp Bq)
 obtain ⟨L, hL⟩ : ∃ L, mV oC r c l m = L := ⟨_, rfl⟩
 obtain ⟨b, hb⟩ : ∃ b, oP oC r c l m = b := ⟨_, rfl⟩
 rw [hL, hb] at HM ⊢
 clear hr hc hl hm hA hA' hcp Bq hL hb
 go_enter Try.func47, Try.ntmps47
 go_wp2_with fail
 refine HM.out.mono ?_
 rintro e w5 ⟨A2, c2, rfl, ho, hb⟩
 have O := Lib.hid ho
 have N5 := Lib.hid (N.out.below hb)
 clear ho hb N HM
 have x3 := N5.out.r2.cell
 have g3 := N5.out.r2.free
 have t3 := N5.out.r2.lt
 go_wp2
 refine bodyPost_ret (yf rfl rfl (N5.out.r2.gy _ _ _)) rfl ⟨_, rfl, ?_, Below.gy N5.out.be (by omega) _ _ _⟩
 exact (O.out.gy (by simp) _ _ _).lower (by simp; omega)
theorem Vo (r c : Nat) (A A' : Option Addr) (cp cp' : Nat) (l m : List Int) (w : World) (hr : r ≤ 8) (hc : c ≤ 8) (hl : l.length = r * c) (hm : m.length = r * c) (hA : Rd w A l) (hA' : Rd w A' m) (hcp : l.length ≤ cp) (Bq : m.length ≤ cp') :
 Calls Try.prog 71 #[.agg #[I r, I c, (.slice A l.length cp)], .agg #[I r, I c, (.slice A' m.length cp')]] w fun e w' => ∃ v, e = .returned (.tuple #[.agg #[I r, I c, v], .bool (oP sJ r c l m), I 0]) ∧ Own w' w.heap.size v (mV sJ r c l m) ∧ Below w.heap.size w w' := by
 have N : Hid (fF w [(26, #[I r, I c, (.slice A l.length cp)]), (26, #[I r, I c, (.slice A' m.length cp')]), (26, #[I 0, I 0, .slice none 0 0])] (((w.alloc (.cells #[I r, I c, (.slice A l.length cp)] 26)).alloc (.cells #[I r, I c, (.slice A' m.length cp')] 26)).alloc (.cells #[I 0, I 0, .slice none 0 0] 26))) := Lib.hid ((((fF.none w).push (by simp) _ _).push (by simp) _ _).push (by simp) _ _)
 have HM := Lib.hid (Ug r c A A' cp cp' l m _ hr hc hl hm (hA.below N.out.be) (hA'.below N.out.be) hcp Bq)
 obtain ⟨L, hL⟩ : ∃ L, mV sJ r c l m = L := ⟨_, rfl⟩
 obtain ⟨b, hb⟩ : ∃ b, oP sJ r c l m = b := ⟨_, rfl⟩
 rw [hL, hb] at HM ⊢
 clear hr hc hl hm hA hA' hcp Bq hL hb
 go_enter Try.func71, Try.ntmps71
 go_wp2_with fail
 refine HM.out.mono ?_
 rintro e w5 ⟨A2, c2, rfl, ho, hb⟩
 have O := Lib.hid ho
 have N5 := Lib.hid (N.out.below hb)
 clear ho hb N HM
 have x3 := N5.out.r2.cell
 have g3 := N5.out.r2.free
 have t3 := N5.out.r2.lt
 go_wp2
 refine bodyPost_ret (yf rfl rfl (N5.out.r2.gy _ _ _)) rfl ⟨_, rfl, ?_, Below.gy N5.out.be (by omega) _ _ _⟩
 exact (O.out.gy (by simp) _ _ _).lower (by simp; omega)
end Go.Proofs.Ytninmcmajbfccaa.KK

namespace Go.Proofs.Ytninmcmajbfccaa.KK
open Go.RowKit Go.Proofs.aH.bK Go.Proofs.aH.dG Go.Proofs.aH.dJ
set_option linter.unusedVariables false
set_option linter.unusedSimpArgs false
def oW (r c : Nat) (l : List Int) (q : Int) : List Int := upto c (fun i k => (xX (l.getD (i * c + k) 0) q).1) r
def scaleB (r c : Nat) (l : List Int) (q : Int) : Bool := yL c (fun i k => (xX (l.getD (i * c + k) 0) q).2) r
theorem Ub : Enters 89 := enters Try.func89 rfl rfl
theorem Uc : Enters 82 := enters Try.func82 rfl rfl
theorem J8 (r c : Nat) (A : Option Addr) (cp : Nat) (g : Nat) (q : Int) (l : List Int) (w : World) (hr : r ≤ 8) (hc : c ≤ 8) (hl : l.length = r * c) (hA : Rd w A l)
 (R : Row w g 26 #[I r, I c, (.slice A l.length cp)]) (R' : Row w (g + 1) 22 #[I q]) :
 BM w 89 #[.pointer (some ⟨g, 0, none⟩), .pointer (some ⟨g + 1, 0, none⟩)] r c (fun i k => (xX (l.getD (i * c + k) 0) q).1) (fun i k => (xX (l.getD (i * c + k) 0) q).2) := by
 intro i k w' hi hk hb
 have R1 := Lib.hid (R.below hb R.lt)
 have R2 := Lib.hid (R'.below hb R'.lt)
 have hle : r * c ≤ 8 * 8 := Nat.mul_le_mul hr hc
 have hlt : i * c + k < r * c := kH hi hk
 have H1 := Lib.hid (fun w' h => pF r c A cp l i k w' h (by rw [hl]; exact hlt) (by rw [hl]; omega))
 have A1 := Lib.hid (hA.below hb)
 obtain ⟨x, hx⟩ : ∃ x, l.getD (i * c + k) 0 = x := ⟨_, rfl⟩
 rw [hx] at H1
 show Calls Try.prog 89 #[I i, I k, .pointer (some ⟨g, 0, none⟩), .pointer (some ⟨g + 1, 0, none⟩)] w' fun e w'' => e = .returned (.tuple #[I (xX (l.getD (i * c + k) 0) q).1, .bool (xX (l.getD (i * c + k) 0) q).2]) ∧ Below w'.heap.size w' w''
 rw [hx]
 have H3 := Lib.hid (fun w => zf x q w)
 obtain ⟨z, hz⟩ : ∃ z, xX x q = z := ⟨_, rfl⟩
 rw [hz] at H3 ⊢
 obtain ⟨z1, z2⟩ := z
 clear hb R R' hA hr hc hle hl hx hz hlt
 have K : Hid (∀ w2, Below w'.heap.size w' w2 → (∀ o, w2.cell? ⟨g, o, none⟩ = #[I r, I c, (.slice A l.length cp)][o]?) ∧ (∀ o, w2.cell? ⟨g + 1, o, none⟩ = #[I q][o]?)) := Lib.hid (fun w2 hb => ⟨(R1.out.below hb R1.out.lt).cell, (R2.out.below hb R2.out.lt).cell⟩)
 have B0 := Lib.hid (Below.refl w'.heap.size w')
 have B1 := Lib.hid B0.out.drew
 have x2 := R1.out.cell
 have x3 := R2.out.cell
 clear R1 R2
 go_enter Try.func89, Try.ntmps89
 go_wp2_with fail
 go_region_held3 (fun w2 => (∀ o, w2.cell? ⟨g, o, none⟩ = #[I r, I c, (.slice A l.length cp)][o]?) ∧ (∀ o, w2.cell? ⟨g + 1, o, none⟩ = #[I q][o]?))
  (first | with_reducible exact K.out _ B3.out | with_reducible exact K.out _ B2.out | with_reducible exact K.out _ B1.out | with_reducible exact K.out _ B0.out)
  (first
    | (go_at_call 35
       refine (H3.out _).mono ?_
       rintro e w4 ⟨rfl, hb⟩
       have B3 := Lib.hid (B2.out.trans (hb.mono B2.out.size))
       clear hb)
    | (go_at_call 80
       refine (H1.out _ (A1.out.below B1.out)).mono ?_
       rintro e w2 ⟨rfl, hb⟩
       have B2 := Lib.hid (B1.out.trans (hb.mono B1.out.size))
       clear hb))
 all_goals
  go_wp2
  go_ret2
  exact ⟨rfl, B3.out⟩
theorem QY (r c : Nat) (A : Option Addr) (cp : Nat) (l : List Int) (q : Int) (w : World) (hr : r ≤ 8) (hc : c ≤ 8) (hl : l.length = r * c) (hA : Rd w A l) (hcp : l.length ≤ cp) :
 Calls Try.prog 69 #[.agg #[I r, I c, (.slice A l.length cp)], I q] w fun e w' => ∃ v, e = .returned (.tuple #[.agg #[I r, I c, v], .bool (scaleB r c l q)]) ∧ Own w' w.heap.size v (oW r c l q) ∧ Below w.heap.size w w' := by
 have N : Hid (fF w [(26, #[I r, I c, (.slice A l.length cp)]), (22, #[I q]), (26, #[I 0, I 0, .slice none 0 0])] (((w.alloc (.cells #[I r, I c, (.slice A l.length cp)] 26)).alloc (.cells #[I q] 22)).alloc (.cells #[I 0, I 0, .slice none 0 0] 26))) := Lib.hid ((((fF.none w).push (by simp) _ _).push (by simp) _ _).push (by simp) _ _)
 have O1 := Lib.hid (fun w' h => uC r c A l cp w' h hcp)
 have HA := Lib.hid hA
 obtain ⟨L, hL⟩ : ∃ L, oW r c l q = L := ⟨_, rfl⟩
 obtain ⟨b, hb⟩ : ∃ b, scaleB r c l q = b := ⟨_, rfl⟩
 have HM := Lib.hid (fun w' (h : fF w [(26, #[I r, I c, (.slice A l.length cp)]), (22, #[I q]), (26, #[I 0, I 0, .slice none 0 0])] w') => xe 89 #[.pointer (some ⟨w.heap.size, 0, none⟩), .pointer (some ⟨w.heap.size + 1, 0, none⟩)] r c _ _ w' L b hL hb hr hc Ub (J8 r c A cp w.heap.size q l w' hr hc hl (hA.below h.be) h.r0 h.r1))
 rw [hL, hb]
 clear hr hc hl hA hcp hL hb
 have hmf := hmf
 go_enter Try.func69, Try.ntmps69
 go_wp2_with fail
 refine (O1.out _ (HA.out.below N.out.be)).mono ?_
 rintro e w4 ⟨rfl, hb⟩
 have N4 := Lib.hid (N.out.below hb)
 clear hb N
 go_wp2_with fail
 refine (HM.out _ N4.out).mono ?_
 rintro e w5 ⟨A2, c2, rfl, ho, hb⟩
 have O := Lib.hid ho
 have N5 := Lib.hid (N4.out.below hb)
 have L4 := N4.out.r2.lt
 clear ho hb
 have x3 := N5.out.r2.cell
 have g3 := N5.out.r2.free
 have t3 := N5.out.r2.lt
 go_wp2
 refine bodyPost_ret (EZ rfl rfl (N5.out.r2.gy _ _ _)) rfl ⟨_, rfl, ?_, Below.gy N5.out.be (by omega) _ _ _⟩
 exact (O.out.gy (by omega) _ _ _).lower (by omega)
def JJ (c1 c2 : Nat) (l m : List Int) (i k : Nat) : Nat → Int × Bool
 | 0 => (0, false)
 | j + 1 =>
   let p := xX (l.getD (i * c1 + j) 0) (m.getD (j * c2 + k) 0)
   let t := oC (JJ c1 c2 l m i k j).1 p.1
   (t.1, (JJ c1 c2 l m i k j).2 || p.2 || t.2)
def mulL (r c1 c2 : Nat) (l m : List Int) : List Int := upto c2 (fun i k => (JJ c1 c2 l m i k c1).1) r
def Ad (r c1 c2 : Nat) (l m : List Int) : Bool := yL c2 (fun i k => (JJ c1 c2 l m i k c1).2) r
theorem QG (r c1 c2 : Nat) (A A' : Option Addr) (cp cp' g : Nat) (l m : List Int) (w : World) (hr : r ≤ 8) (hc1 : c1 ≤ 8) (hc2 : c2 ≤ 8) (hl : l.length = r * c1) (hm : m.length = c1 * c2) (hA : Rd w A l) (hA' : Rd w A' m)
 (R : Row w g 26 #[I r, I c1, (.slice A l.length cp)]) (R' : Row w (g + 1) 26 #[I c1, I c2, (.slice A' m.length cp')]) :
 BM w 82 #[.pointer (some ⟨g, 0, none⟩), .pointer (some ⟨g + 1, 0, none⟩)] r c2 (fun i k => (JJ c1 c2 l m i k c1).1) (fun i k => (JJ c1 c2 l m i k c1).2) := by
 intro i k w' hi hk hb
 have R1 := Lib.hid (R.below hb R.lt)
 have R2 := Lib.hid (R'.below hb R'.lt)
 have hle : r * c1 ≤ 8 * 8 := Nat.mul_le_mul hr hc1
 have hle2 : c1 * c2 ≤ 8 * 8 := Nat.mul_le_mul hc1 hc2
 have H1 := Lib.hid (fun w' j h (hj : j < c1) => pF r c1 A cp l i j w' h (by rw [hl]; exact kH hi hj) (by rw [hl]; omega))
 have H2 := Lib.hid (fun w' j h (hj : j < c1) => pF c1 c2 A' cp' m j k w' h (by rw [hm]; exact kH hj hk) (by rw [hm]; omega))
 have A1 := Lib.hid (hA.below hb)
 have A2 := Lib.hid (hA'.below hb)
 have HC := Lib.hid hc1
 show Calls Try.prog 82 #[I i, I k, .pointer (some ⟨g, 0, none⟩), .pointer (some ⟨g + 1, 0, none⟩)] w' fun e w'' => e = .returned (.tuple #[I (JJ c1 c2 l m i k c1).1, .bool (JJ c1 c2 l m i k c1).2]) ∧ Below w'.heap.size w' w''
 obtain ⟨f, hf⟩ : ∃ f, JJ c1 c2 l m i k = f := ⟨_, rfl⟩
 have hs : ∀ j, f (j + 1) = ((oC (f j).1 (xX (l.getD (i * c1 + j) 0) (m.getD (j * c2 + k) 0)).1).1, (f j).2 || (xX (l.getD (i * c1 + j) 0) (m.getD (j * c2 + k) 0)).2 || (oC (f j).1 (xX (l.getD (i * c1 + j) 0) (m.getD (j * c2 + k) 0)).1).2) := fun j => by subst hf; rfl
 have h0 : f 0 = (0, false) := by subst hf; rfl
 rw [hf]
 have HF := Lib.hid hs
 have H0 := Lib.hid h0
 clear hb R R' hA hA' hr hc1 hc2 hle hle2 hl hm hf hs h0
 have K : Hid (∀ w2, Below w'.heap.size w' w2 → (∀ o, w2.cell? ⟨g, o, none⟩ = #[I r, I c1, (.slice A l.length cp)][o]?) ∧ (∀ o, w2.cell? ⟨g + 1, o, none⟩ = #[I c1, I c2, (.slice A' m.length cp')][o]?)) := Lib.hid (fun w2 hb => ⟨(R1.out.below hb R1.out.lt).cell, (R2.out.below hb R2.out.lt).cell⟩)
 have B0 := Lib.hid (Below.refl w'.heap.size w')
 have x2 := R1.out.cell
 have x3 := R2.out.cell
 clear R1 R2
 go_enter Try.func82, Try.ntmps82
 go_wp2_with fail
 go_loopw [8, 9, 17] (fun su od jj wr => ∃ (j : Nat) (sv : Int) (ov : Bool), j ≤ c1 ∧ jj = .int .i64 j ∧ su = .int .i64 sv ∧ od = .bool ov ∧ Hid (f j = (sv, ov)) ∧ Hid (Below w'.heap.size w' wr)) (fun _ _ jj _ => c1 - (intOf jj).toNat)
 case atStart => exact ⟨0, 0, false, by omega, rfl, rfl, rfl, Lib.hid H0.out, B0⟩
 case round =>
  clear B0
  obtain ⟨j, sv, ov, hj, rfl, rfl, rfl, F, B0⟩ := hrel
  clear x2 x3
  have x2 := (K.out _ B0.out).1
  have x3 := (K.out _ B0.out).2
  by_cases hjc : j = c1
  · subst hjc
    go_wp2
    go_ret2
    exact ⟨by rw [F.out]; rfl, B0.out⟩
  have hlt : (j : Int) < c1 := by omega
  have HJ := Lib.hid (show j < c1 by omega)
  have STEP : Hid (j + 1 ≤ c1 ∧ c1 - (j + 1) < c1 - j) := Lib.hid (by omega)
  have hw64 : IntKind.i64.wrap ((j : Int) + 1) = (j : Int) + 1 := by have := HC.out; simp [IntKind.wrap, IntKind.bits, IntKind.signed]; omega
  obtain ⟨x, hx⟩ : ∃ x, l.getD (i * c1 + j) 0 = x := ⟨_, rfl⟩
  obtain ⟨y, hy⟩ : ∃ y, m.getD (j * c2 + k) 0 = y := ⟨_, rfl⟩
  obtain ⟨p, hp⟩ : ∃ p, xX x y = p := ⟨_, rfl⟩
  obtain ⟨p1, p2⟩ := p
  obtain ⟨t, ht⟩ : ∃ t, oC sv p1 = t := ⟨_, rfl⟩
  obtain ⟨t1, t2⟩ := t
  have F2 : Hid (f (j + 1) = (t1, ov || p2 || t2)) := Lib.hid (by rw [HF.out, F.out, hx, hy, hp]; dsimp only; rw [ht])
  have G1 := Lib.hid (fun w' h => H1.out w' j h HJ.out)
  have G2 := Lib.hid (fun w' h => H2.out w' j h HJ.out)
  have G3 := Lib.hid (fun w => zf x y w)
  have G4 := Lib.hid (fun w => C_ sv p1 w)
  rw [hx] at G1
  rw [hy] at G2
  rw [hp] at G3
  rw [ht] at G4
  dsimp only at G3 G4
  clear hx hy hp ht hj hjc
  have B1 := Lib.hid B0.out.drew
  go_wp2_with fail
  go_region_held3 (fun w2 => (∀ o, w2.cell? ⟨g, o, none⟩ = #[I r, I c1, (.slice A l.length cp)][o]?) ∧ (∀ o, w2.cell? ⟨g + 1, o, none⟩ = #[I c1, I c2, (.slice A' m.length cp')][o]?))
   (first | with_reducible exact K.out _ B4.out | with_reducible exact K.out _ B3.out | with_reducible exact K.out _ B2.out | with_reducible exact K.out _ B1.out | with_reducible exact K.out _ B0.out)
   (first
     | (go_at_call 35
        refine (G3.out _).mono ?_
        rintro e w4 ⟨rfl, hb⟩
        have B4 := Lib.hid (B3.out.trans (hb.mono B3.out.size))
        clear hb)
     | (go_at_call 80
        refine (G2.out _ (A2.out.below B2.out)).mono ?_
        rintro e w3 ⟨rfl, hb⟩
        have B3 := Lib.hid (B2.out.trans (hb.mono B2.out.size))
        clear hb)
     | (go_at_call 80
        refine (G1.out _ (A1.out.below B1.out)).mono ?_
        rintro e w2 ⟨rfl, hb⟩
        have B2 := Lib.hid (B1.out.trans (hb.mono B1.out.size))
        clear hb))
  go_wp2_with fail
  refine (G4.out _).mono ?_
  rintro e w5 ⟨rfl, hb⟩
  have B5 := Lib.hid (B4.out.trans (hb.mono B4.out.size))
  clear hb
  cases ov
  · cases p2
    all_goals
     go_wp2
     go_roundw
     case rel => exact ⟨j + 1, t1, _, STEP.out.1, by go_num, rfl, rfl, by simpa using F2, B5⟩
     case measure =>
      have h := STEP.out.2
      show c1 - ((j : Int) + 1).toNat < c1 - ((j : Int)).toNat
      rw [show ((j : Int) + 1).toNat = j + 1 by omega, show ((j : Int)).toNat = j by omega]
      exact h
  · go_wp2
    go_roundw
    case rel => exact ⟨j + 1, t1, _, STEP.out.1, by go_num, rfl, rfl, by simpa using F2, B5⟩
    case measure =>
     have h := STEP.out.2
     show c1 - ((j : Int) + 1).toNat < c1 - ((j : Int)).toNat
     rw [show ((j : Int) + 1).toNat = j + 1 by omega, show ((j : Int)).toNat = j by omega]
     exact h
theorem Ep (r c1 c2 : Nat) (A A' : Option Addr) (cp cp' : Nat) (l m : List Int) (w : World) (hr : r ≤ 8) (hc1 : c1 ≤ 8) (hc2 : c2 ≤ 8) (hl : l.length = r * c1) (hm : m.length = c1 * c2) (hA : Rd w A l) (hA' : Rd w A' m) :
 Calls Try.prog 46 #[.agg #[I r, I c1, (.slice A l.length cp)], .agg #[I c1, I c2, (.slice A' m.length cp')]] w fun e w' => ∃ v, e = .returned (.tuple #[.agg #[I r, I c2, v], .bool (Ad r c1 c2 l m), I 0]) ∧ Own w' w.heap.size v (mulL r c1 c2 l m) ∧ Below w.heap.size w w' := by
 have N : Hid (fF w [(26, #[I r, I c1, (.slice A l.length cp)]), (26, #[I c1, I c2, (.slice A' m.length cp')]), (26, #[I 0, I 0, .slice none 0 0])] (((w.alloc (.cells #[I r, I c1, (.slice A l.length cp)] 26)).alloc (.cells #[I c1, I c2, (.slice A' m.length cp')] 26)).alloc (.cells #[I 0, I 0, .slice none 0 0] 26))) := Lib.hid ((((fF.none w).push (by simp) _ _).push (by simp) _ _).push (by simp) _ _)
 obtain ⟨L, hL⟩ : ∃ L, mulL r c1 c2 l m = L := ⟨_, rfl⟩
 obtain ⟨b, hb⟩ : ∃ b, Ad r c1 c2 l m = b := ⟨_, rfl⟩
 have HM := Lib.hid (xe 82 #[.pointer (some ⟨w.heap.size, 0, none⟩), .pointer (some ⟨w.heap.size + 1, 0, none⟩)] r c2 _ _ _ L b hL hb hr hc2 Uc (QG r c1 c2 A A' cp cp' w.heap.size l m _ hr hc1 hc2 hl hm (hA.below N.out.be) (hA'.below N.out.be) N.out.r0 N.out.r1))
 rw [hL, hb]
 clear hr hc1 hc2 hl hm hA hA' hL hb
 have hmf := hmf
 have e1 : ((c1 : Int) != (c1 : Int)) = false := by simp
 go_enter Try.func46, Try.ntmps46
 go_wp2_with fail
 refine HM.out.mono ?_
 rintro e w5 ⟨A2, c3, rfl, ho, hb⟩
 have O := Lib.hid ho
 have N5 := Lib.hid (N.out.below hb)
 clear ho hb N HM
 have x3 := N5.out.r2.cell
 have g3 := N5.out.r2.free
 have t3 := N5.out.r2.lt
 go_wp2
 refine bodyPost_ret (yf rfl rfl ((N5.out.r2.gy _ _ _).alloc _)) rfl ⟨_, rfl, ?_, (Below.gy N5.out.be (by omega) _ _ _).alloc (by have := N5.out.be.size; simp; omega) _⟩
 exact ((O.out.gy (by simp) _ _ _).alloc _).lower (by simp; omega)
theorem KL (r c1 r2 c2 : Int) (A A' : Option Addr) (cp cp' : Nat) (l m : List Int) (w : World) (hne : c1 ≠ r2) :
 Calls Try.prog 46 #[.agg #[I r, I c1, (.slice A l.length cp)], .agg #[I r2, I c2, (.slice A' m.length cp')]] w fun e w' => e = .returned (.tuple #[.agg #[I 0, I 0, .slice none 0 0], .bool false, I 9]) ∧ Below w.heap.size w w' := by
 have N : Hid (fF w [(26, #[I r, I c1, (.slice A l.length cp)]), (26, #[I r2, I c2, (.slice A' m.length cp')]), (26, #[I 0, I 0, .slice none 0 0])] (((w.alloc (.cells #[I r, I c1, (.slice A l.length cp)] 26)).alloc (.cells #[I r2, I c2, (.slice A' m.length cp')] 26)).alloc (.cells #[I 0, I 0, .slice none 0 0] 26))) := Lib.hid ((((fF.none w).push (by simp) _ _).push (by simp) _ _).push (by simp) _ _)
 have e1 : (c1 != r2) = true := by simpa using hne
 clear hne
 have x3 := N.out.r2.cell
 have g3 := N.out.r2.free
 go_enter Try.func46, Try.ntmps46
 go_wp2
 exact bodyPost_ret (yf rfl rfl N.out.r2) rfl ⟨rfl, N.out.be⟩
end Go.Proofs.Ytninmcmajbfccaa.KK

namespace Go.Proofs.Ytninmcmajbfccaa.KK
open Go.RowKit Go.Proofs.aH.bK Go.Proofs.aH.dG Go.Proofs.aH.dJ
set_option linter.unusedVariables false
set_option linter.unusedSimpArgs false
def jV (q : Int) : Bool := decide (q < -70368744177664) || decide (q > 70368744177663)
theorem NP (q : Int) (w : World) : Calls Try.prog 75 #[I q] w fun e w' => e = .returned (.bool (jV q)) ∧ Below w.heap.size w w' := by
 by_cases h : q < -70368744177664
 · have h0 : decide (q < -70368744177664) = true := decide_eq_true h
   clear h
   go_enter Try.func75, Try.ntmps75
   go_wp2
   go_ret
   exact ⟨by simp [jV, h0], Below.refl _ _⟩
 · have h0 : decide (q < -70368744177664) = false := decide_eq_false h
   clear h
   go_enter Try.func75, Try.ntmps75
   go_wp2
   go_ret
   exact ⟨by simp [jV, h0], Below.refl _ _⟩
theorem take_any {l : List Int} {j : Nat} {x : Int} (h : l[j]? = some x) (ha : (l.take j).any jV = false) (hx : jV x = false) : (l.take (j + 1)).any jV = false := by
 rw [List.take_add_one, h, List.any_append, ha]
 simp [hx]
theorem ZG {l : List Int} {j : Nat} {x : Int} (h : l[j]? = some x) (hx : jV x = true) : l.any jV = true :=
 List.any_eq_true.2 ⟨x, List.mem_of_getElem? h, hx⟩
theorem KQ (A : Option Addr) (c : Nat) (l : List Int) (w : World) (hw : Rd w A l) (hlen : l.length ≤ 1000000) :
 Calls Try.prog 92 #[.slice A l.length c, .func (.func 75) #[] #[]] w fun e w' => ∃ x, e = .returned (I x) ∧ decide (x ≥ 0) = l.any jV ∧ Below w.heap.size w w' := by
 have HW := Lib.hid hw
 have HL := Lib.hid hlen
 clear hw hlen
 go_enter Try.func92, Try.ntmps92
 go_wp2_with fail
 go_loopw [8] (fun i wr => ∃ k : Nat, k ≤ l.length ∧ i = .int .i64 k ∧ Hid ((l.take k).any jV = false) ∧ Hid (Below w.heap.size w wr)) (fun i _ => l.length - (intOf i).toNat)
 case atStart => exact ⟨0, by omega, rfl, Lib.hid (by simp), Lib.hid (Below.refl _ _)⟩
 case round =>
  obtain ⟨k, hk, rfl, F, HB⟩ := hrel
  by_cases hkl : k = l.length
  · subst hkl
    go_wp2
    go_ret
    exact ⟨_, rfl, by have := F.out; rw [List.take_length] at this; rw [this]; rfl, HB.out⟩
  have hlt : (k : Int) < l.length := by omega
  have hk0 : (0 : Int) ≤ k := by omega
  have STEP : Hid (k + 1 ≤ l.length ∧ l.length - (k + 1) < l.length - k) := Lib.hid (by omega)
  have hw64 : IntKind.i64.wrap ((k : Int) + 1) = (k : Int) + 1 := by have := HL.out; simp [IntKind.wrap, IntKind.bits, IntKind.signed]; omega
  obtain ⟨b, off, rfl, hb, hc⟩ := (HW.out.below HB.out).cells (by omega)
  obtain ⟨x, hx⟩ : ∃ x, l[k]? = some x := ⟨l[k]'(by omega), List.getElem?_eq_getElem (by omega)⟩
  have c0 := hc k x hx
  have HX := Lib.hid hx
  clear hc hx hk hkl
  go_wp2_with fail
  refine (NP x _).mono ?_
  rintro e w2 ⟨rfl, hb2⟩
  have HB2 := Lib.hid (HB.out.trans (hb2.mono HB.out.size))
  clear hb2
  cases hq : jV x
  · have HQ := Lib.hid hq
    clear hq
    go_wp2
    go_roundw
    case rel => exact ⟨k + 1, STEP.out.1, by go_num, Lib.hid (take_any HX.out F.out HQ.out), HB2⟩
    case measure =>
     have h := STEP.out.2
     show l.length - ((k : Int) + 1).toNat < l.length - ((k : Int)).toNat
     rw [show ((k : Int) + 1).toNat = k + 1 by omega, show ((k : Int)).toNat = k by omega]
     exact h
  · have HQ := Lib.hid hq
    clear hq
    go_wp2
    go_ret
    exact ⟨_, rfl, by rw [ZG HX.out HQ.out]; simp, HB2.out⟩
theorem Gj (A : Option Addr) (c : Nat) (l : List Int) (w : World) (hw : Rd w A l) (hlen : l.length ≤ 1000000) :
 Calls Try.prog 76 #[.slice A l.length c, .func (.func 75) #[] #[]] w fun e w' => e = .returned (.bool (l.any jV)) ∧ Below w.heap.size w w' := by
 have H := Lib.hid (KQ A c l w hw hlen)
 clear hw hlen
 go_enter Try.func76, Try.ntmps76
 go_wp2_with fail
 refine H.out.mono ?_
 rintro e w2 ⟨x, rfl, hx, hb⟩
 have HB := Lib.hid hb
 have HX := Lib.hid hx
 clear hb hx
 go_wp2
 go_ret
 exact ⟨by rw [← HX.out]; rfl, HB.out⟩
def jO (r c : Int) (l : List Int) : Bool := decide (r ≥ 1) && decide (r ≤ 8) && decide (c ≥ 1) && decide (c ≤ 8) && ((l.length : Int) == wrap64 (r * c)) && !l.any jV
theorem rP (r c : Int) (A : Option Addr) (cp : Nat) (l : List Int) (w : World) (hw : Rd w A l) :
 Calls Try.prog 39 #[.agg #[I r, I c, (.slice A l.length cp)]] w fun e w' => e = .returned (.bool (jO r c l)) ∧ Below w.heap.size w w' := by
 have N : Hid (fF w [(26, #[I r, I c, (.slice A l.length cp)])] (w.alloc (.cells #[I r, I c, (.slice A l.length cp)] 26))) := Lib.hid ((fF.none w).push (by simp) _ _)
 have HW := Lib.hid hw
 clear hw
 cases h0 : decide (r ≥ 1)
 · go_enter Try.func39, Try.ntmps39
   go_wp2
   go_ret
   exact ⟨by simp [jO, *], N.out.be⟩
 cases h1 : decide (r ≤ 8)
 · go_enter Try.func39, Try.ntmps39
   go_wp2
   go_ret
   exact ⟨by simp [jO, *], N.out.be⟩
 cases h2 : decide (c ≥ 1)
 · go_enter Try.func39, Try.ntmps39
   go_wp2
   go_ret
   exact ⟨by simp [jO, *], N.out.be⟩
 cases h3 : decide (c ≤ 8)
 · go_enter Try.func39, Try.ntmps39
   go_wp2
   go_ret
   exact ⟨by simp [jO, *], N.out.be⟩
 cases h4 : ((l.length : Int) == wrap64 (r * c))
 · go_enter Try.func39, Try.ntmps39
   go_wp2
   go_ret
   exact ⟨by simp [jO, *], N.out.be⟩
 have hlen : l.length ≤ 1000000 := by
  have a0 := of_decide_eq_true h0
  have a1 := of_decide_eq_true h1
  have a2 := of_decide_eq_true h2
  have a3 := of_decide_eq_true h3
  have a4 : (l.length : Int) = wrap64 (r * c) := by simpa using h4
  have b0 : 0 ≤ r * c := Int.mul_nonneg (by omega) (by omega)
  have b1 : r * c ≤ 8 * c := Int.mul_le_mul_of_nonneg_right (by omega) (by omega)
  unfold wrap64 at a4
  omega
 have H := Lib.hid (Gj A cp l _ (HW.out.below N.out.be) hlen)
 obtain ⟨b, hb⟩ : ∃ b, l.any jV = b := ⟨_, rfl⟩
 have HB := Lib.hid hb
 rw [hb] at H
 clear hb hlen
 go_enter Try.func39, Try.ntmps39
 go_wp2_with fail
 refine H.out.mono ?_
 rintro e w2 ⟨rfl, hb⟩
 have N2 := Lib.hid (N.out.below hb)
 clear hb
 go_wp2
 go_ret
 exact ⟨by simp [jO, HB.out, *], N2.out.be⟩
theorem Rd.flat {w : World} {ad : Addr} {l : List Int} (h : Rd w (some ad) l) : ∀ j u, (l.map I)[j]? = some u → w.cell? (ad.add j) = some u := by
 intro j u hj
 rw [List.getElem?_map] at hj
 cases hx : l[j]? with
 | none => rw [hx] at hj; cases hj
 | some x =>
   rw [hx] at hj
   injection hj with hj
   subst hj
   have hl : j < l.length := by
    rcases Nat.lt_or_ge j l.length with h | h
    · exact h
    · rw [List.getElem?_eq_none h] at hx; cases hx
   obtain ⟨b, off, e, _, hc⟩ := h.cells (by omega)
   injection e with e
   subst e
   have := hc j x hx
   unfold Addr.add
   by_cases h0 : j = 0
   · subst h0; simpa using this
   · rw [if_neg h0]; exact this
theorem DT (A : Option Addr) (c : Nat) (l : List Int) (w : World) (hw : Rd w A l) (hlen : l.length ≤ 1000000) (hA : A = none → l.length = 0 ∧ c = 0) :
 Calls Try.prog 31 #[.slice A l.length c] w fun e w' => ∃ v, e = .returned v ∧ Own w' w.heap.size v l ∧ Below w.heap.size w w' := by
 cases A with
 | none =>
   obtain ⟨hl, rfl⟩ := hA rfl
   obtain rfl := List.eq_nil_of_length_eq_zero hl
   have he : ∀ w : World, (binOp .eql 24 (.slice none 0 0) (.slice none 0 0)).run Try.prog w = .ok (.bool true) w := fun _ => rfl
   go_enter Try.func31, Try.ntmps31
   go_wp2
   go_ret
   exact ⟨_, rfl, Own.nil _ _, Below.refl _ _⟩
 | some ad =>
   have HW := Lib.hid hw
   have HL := Lib.hid hlen
   clear hw hlen hA
   go_enter Try.func31, Try.ntmps31
   have he : ∀ w : World, (binOp .eql 24 (.slice (some ad) l.length c) (.slice none 0 0)).run Try.prog w = .ok (.bool false) w := fun _ => rfl
   obtain ⟨i0, hi0, hz0, hz1, hz2⟩ := info_parts M_
   go_wp2_with (at_builtin
                refine wpList_append_own_at _ rfl (.tmp 5) (.tmp 6) _ rfl w.heap.size 22 i0 _ 1 8 Try.underlying24 hi0 hz0 hz1 hz2 rfl (by omega) (.slice (some ⟨w.heap.size, 0, none⟩) 0 0) 0 [] rfl ?own ad l.length c (l.map I) rfl (by simp) ?news ?one ?h63 ?hby ?base ?_
                case own => exact ⟨rfl, .inr ⟨_, 0, #[], rfl, Nat.le_refl _, heap_alloc_new w _, Nat.le_refl _, by simp [maxLen], rfl, rfl⟩⟩
                case news => exact (HW.out.below ((Below.refl _ _).alloc (Nat.le_refl _) _)).flat
                case one => (intro u hu; simp at hu; obtain ⟨q, _, rfl⟩ := hu; rfl)
                case h63 => (have := HL.out; simp only [maxLen]; omega)
                case hby => (have := HL.out; omega)
                case base => simp
                intro v' w' hown hgrow hnil hat)
   go_ret
   exact ⟨v', rfl, Own.Ac (by simpa using hown), ((Below.refl _ _).alloc (Nat.le_refl _) _).grown hgrow (by simp) (by intro k hk; simp [Value.ownBlock] at hk; omega)⟩
def jf (l : List Int) : List Int := upto l.length (fun i k => if i = k then l.getD i 0 else 0) l.length
theorem Ue : Enters 60 := enters Try.func60 rfl rfl
theorem MX (A : Option Addr) (cp g : Nat) (l : List Int) (w : World) (hl : l.length ≤ 8) (hA : Rd w A l) (R : Row w g 24 #[(.slice A l.length cp)]) :
 BM w 60 #[.pointer (some ⟨g, 0, none⟩)] l.length l.length (fun i k => if i = k then l.getD i 0 else 0) (fun _ _ => false) := by
 intro i k w' hi hk hb
 have R' := R.below hb R.lt
 have x := R'.cell
 show Calls Try.prog 60 #[I i, I k, .pointer (some ⟨g, 0, none⟩)] w' fun e w'' => e = .returned (.tuple #[I (if i = k then l.getD i 0 else 0), .bool false]) ∧ Below w'.heap.size w' w''
 by_cases h : i = k
 · subst h
   rw [if_pos rfl]
   obtain ⟨b, off, rfl, _, hc⟩ := (hA.below hb).cells (by omega)
   have c0 := hc i _ (xy hi)
   obtain ⟨y, hy⟩ : ∃ y, l.getD i 0 = y := ⟨_, rfl⟩
   rw [hy] at c0 ⊢
   have e0 : ((i : Int) == (i : Int)) = true := by simp
   have i0 : (0 : Int) ≤ i := by omega
   have i1 : (i : Int) < l.length := by omega
   clear hb hc hy hA hi hk hl R R'
   go_enter Try.func60, Try.ntmps60
   go_wp2
   go_ret2
   exact ⟨rfl, Below.refl _ _⟩
 · rw [if_neg h]
   have e0 : ((i : Int) == (k : Int)) = false := by simp; omega
   clear hb hA hi hk hl R R' h
   go_enter Try.func60, Try.ntmps60
   go_wp2
   go_ret2
   exact ⟨rfl, Below.refl _ _⟩
theorem Hr (l : List Int) (h1 : 1 ≤ l.length) (h8 : l.length ≤ 8) : jO 1 l.length l = !l.any jV := by
 have e : wrap64 (1 * (l.length : Int)) = l.length := by unfold wrap64; omega
 have e1 : decide ((l.length : Int) ≥ 1) = true := decide_eq_true (by omega)
 have e2 : decide ((l.length : Int) ≤ 8) = true := decide_eq_true (by omega)
 simp only [jO, e, e1, e2]
 simp
theorem Ul (A : Option Addr) (cp : Nat) (l : List Int) (w : World) (hA : Rd w A l) (h : l.length < 1 ∨ l.length > 8 ∨ l.any jV = true) :
 Calls Try.prog 30 #[(.slice A l.length cp)] w fun e w' => e = .returned (.tuple #[.agg #[I 0, I 0, .slice none 0 0], I 1]) ∧ Below w.heap.size w w' := by
 have N : Hid (fF w [(24, #[(.slice A l.length cp)]), (26, #[I 0, I 0, .slice none 0 0])] ((w.alloc (.cells #[(.slice A l.length cp)] 24)).alloc (.cells #[I 0, I 0, .slice none 0 0] 26))) := Lib.hid (((fF.none w).push (by simp) _ _).push (by simp) _ _)
 by_cases h1 : l.length < 1
 · have e1 : decide ((l.length : Int) < 1) = true := decide_eq_true (by omega)
   clear h h1 hA
   go_enter Try.func30, Try.ntmps30
   go_wp2
   exact bodyPost_ret (EZ rfl rfl N.out.r1) rfl ⟨rfl, N.out.be⟩
 have e1 : decide ((l.length : Int) < 1) = false := decide_eq_false (by omega)
 by_cases h8 : l.length > 8
 · have e2 : decide ((l.length : Int) > 8) = true := decide_eq_true (by omega)
   clear h h1 h8 hA
   go_enter Try.func30, Try.ntmps30
   go_wp2
   exact bodyPost_ret (EZ rfl rfl N.out.r1) rfl ⟨rfl, N.out.be⟩
 have e2 : decide ((l.length : Int) > 8) = false := decide_eq_false (by omega)
 have ha : l.any jV = true := by rcases h with h | h | h <;> first | exact h | omega
 have H := Lib.hid (rP 1 l.length A cp l _ (hA.below N.out.be))
 rw [Hr l (by omega) (by omega), ha] at H
 clear h h1 h8 ha hA
 go_enter Try.func30, Try.ntmps30
 go_wp2_with fail
 refine H.out.mono ?_
 rintro e w2 ⟨rfl, hb⟩
 have N2 := Lib.hid (N.out.below hb)
 clear hb
 have x1 := N2.out.r1.cell
 have g1 := N2.out.r1.free
 have t1 := N2.out.r1.lt
 go_wp2
 exact bodyPost_ret (EZ rfl rfl (N2.out.r1.gy _ _ _)) rfl ⟨rfl, Below.gy N2.out.be (by omega) _ _ _⟩
theorem CY (A : Option Addr) (cp : Nat) (l : List Int) (w : World) (hA : Rd w A l) (h1 : 1 ≤ l.length) (h8 : l.length ≤ 8) (ha : l.any jV = false) :
 Calls Try.prog 30 #[(.slice A l.length cp)] w fun e w' => ∃ v, e = .returned (.tuple #[.agg #[I l.length, I l.length, v], I 0]) ∧ Own w' w.heap.size v (jf l) ∧ Below w.heap.size w w' := by
 have N : Hid (fF w [(24, #[(.slice A l.length cp)]), (26, #[I 0, I 0, .slice none 0 0])] ((w.alloc (.cells #[(.slice A l.length cp)] 24)).alloc (.cells #[I 0, I 0, .slice none 0 0] 26))) := Lib.hid (((fF.none w).push (by simp) _ _).push (by simp) _ _)
 have e1 : decide ((l.length : Int) < 1) = false := decide_eq_false (by omega)
 have e2 : decide ((l.length : Int) > 8) = false := decide_eq_false (by omega)
 have H := Lib.hid (rP 1 l.length A cp l _ (hA.below N.out.be))
 rw [Hr l (by omega) (by omega), ha] at H
 obtain ⟨L, hL⟩ : ∃ L, jf l = L := ⟨_, rfl⟩
 have HM := Lib.hid (fun w' (h : fF w [(24, #[(.slice A l.length cp)]), (26, #[I 0, I 0, .slice none 0 0])] w') => xe 60 #[.pointer (some ⟨w.heap.size, 0, none⟩)] l.length l.length _ _ w' L false hL (DZ _ _) h8 h8 Ue (MX A cp w.heap.size l w' h8 (hA.below h.be) h.r0))
 rw [hL]
 clear h1 h8 ha hA hL
 have hmf := hmf
 go_enter Try.func30, Try.ntmps30
 go_wp2_with fail
 refine H.out.mono ?_
 rintro e w2 ⟨rfl, hb⟩
 have N2 := Lib.hid (N.out.below hb)
 clear hb
 go_wp2_with fail
 refine (HM.out _ N2.out).mono ?_
 rintro e w5 ⟨A2, c2, rfl, ho, hb⟩
 have O := Lib.hid ho
 have N5 := Lib.hid (N2.out.below hb)
 have L4 := N2.out.r1.lt
 clear ho hb
 have x1 := N5.out.r1.cell
 have g1 := N5.out.r1.free
 have t1 := N5.out.r1.lt
 go_wp2
 refine bodyPost_ret (EZ rfl rfl ((N5.out.r1.gy _ _ _).alloc _)) rfl ⟨_, rfl, ?_, (Below.gy N5.out.be (by omega) _ _ _).alloc (by have := N5.out.be.size; simp; omega) _⟩
 exact ((O.out.gy (by omega) _ _ _).alloc _).lower (by omega)
end Go.Proofs.Ytninmcmajbfccaa.KK

namespace Go.Proofs.Ytninmcmajbfccaa.KK
open Go.RowKit Go.Proofs.aH.bK Go.Proofs.aH.dG Go.Proofs.aH.dJ
set_option linter.unusedVariables false
set_option linter.unusedSimpArgs false
theorem z_ (r c : Nat) (l : List Int) : (AY r c l).length = c * r := upto_length
def DL (n : Nat) (l : List Int) : List Int := mV o_ n n l (AY n n l)
theorem Rt (n : Nat) (A : Option Addr) (cp : Nat) (l : List Int) (w : World) (hn : n ≤ 8) (hl : l.length = n * n) (hA : Rd w A l) (hcp : l.length ≤ cp) :
 Calls Try.prog 38 #[.agg #[I n, I n, .slice A l.length cp]] w fun e w' => ∃ v, e = .returned (.tuple #[.agg #[I n, I n, v], .bool (oP o_ n n l (AY n n l)), I 0]) ∧ Own w' w.heap.size v (DL n l) ∧ Below w.heap.size w w' := by
 have N : Hid (fF w [(26, #[I n, I n, .slice A l.length cp]), (26, #[I 0, I 0, .slice none 0 0])] ((w.alloc (.cells #[I n, I n, .slice A l.length cp] 26)).alloc (.cells #[I 0, I 0, .slice none 0 0] 26))) := Lib.hid (((fF.none w).push (by simp) _ _).push (by simp) _ _)
 have HA := Lib.hid hA
 have HT := Lib.hid (fun w' h => rO n n A cp l w' hn hn hl h)
 have HE := Lib.hid (fun A' cp' w' h h' hc => Ru n n A A' cp cp' l (AY n n l) w' hn hn hl (z_ n n l) h h' hcp hc)
 obtain ⟨T, hT⟩ : ∃ T, AY n n l = T := ⟨_, rfl⟩
 rw [hT] at HT HE
 unfold DL
 rw [hT]
 obtain ⟨L, hL⟩ : ∃ L, mV o_ n n l T = L := ⟨_, rfl⟩
 obtain ⟨b, hb⟩ : ∃ b, oP o_ n n l T = b := ⟨_, rfl⟩
 rw [hL, hb] at HE
 rw [hL, hb]
 have KK : Hid (∀ w', fF w [(26, #[I n, I n, .slice A l.length cp]), (26, #[I 0, I 0, .slice none 0 0])] w' → ∀ o, w'.cell? ⟨w.heap.size, o, none⟩ = #[I n, I n, .slice A l.length cp][o]?) := Lib.hid (fun w' h => h.r0.cell)
 clear hn hl hA hcp hT hL hb
 have y0 := N.out.r0.cell
 go_enter Try.func38, Try.ntmps38
 go_wp2_with fail
 go_region_held3 (fun w' => ∀ o, w'.cell? ⟨w.heap.size, o, none⟩ = #[I n, I n, .slice A l.length cp][o]?)
  (first | with_reducible exact KK.out _ N3.out | with_reducible exact KK.out _ N2.out | with_reducible exact KK.out _ N.out.drew | exact (Row.CU N3.out.r0 (C := w.heap.size + 1) (by simp)).cell)
  (first
    | (go_at_call 72
       refine (HE.out _ _ _ (HA.out.below N2.out.be) RT.out CT.out).mono ?_
       rintro e w3 ⟨A3, c3, rfl, ho, hb⟩
       have O := Lib.hid ho
       have N3 := Lib.hid (N2.out.below hb)
       have L3 := N2.out.r1.lt
       have x1 := N3.out.r1.cell
       have g1 := N3.out.r1.free
       clear hb ho)
    | (go_at_call 41
       refine (HT.out _ (HA.out.below N.out.drew.be)).mono ?_
       rintro e w2 ⟨v, rfl, ho, hb⟩
       obtain ⟨A2, c2, rfl, ht, rt⟩ := ho.reads
       have RT := Lib.hid rt
       have CT := Lib.hid ht
       have N2 := Lib.hid (N.out.drew.below hb)
       clear hb ho rt ht))
 all_goals
  go_wp2
  refine bodyPost_ret (yf rfl rfl (N3.out.r1.gy _ _ _)) rfl ⟨_, rfl, ?_, Below.gy N3.out.be (by omega) _ _ _⟩
  exact (O.out.gy (by omega) _ _ _).lower (by omega)
end Go.Proofs.Ytninmcmajbfccaa.KK

namespace Go.Proofs.Ytninmcmajbfccaa.KK
open Go.RowKit Go.Proofs.aH.bK Go.Proofs.aH.dG Go.Proofs.aH.dJ
set_option linter.unusedVariables false
set_option linter.unusedSimpArgs false
def QN : List Value → Nat → List Value → List Value
 | l, _, [] => l
 | l, o, v :: vs => QN (l.set o v) (o + 1) vs
theorem Row.setCells {B : Nat} {t : TypeId} : ∀ (vs : List Value) (o : Nat) (w : World) (arr : Array Value), Row w B t arr → ∃ RZ, Row (w.setCells B o vs) B t RZ ∧ RZ.toList = QN arr.toList o vs := by
 intro vs
 induction vs with
 | nil => intro o w arr h; exact ⟨arr, h, rfl⟩
 | cons v vs ih =>
   intro o w arr h
   obtain ⟨RZ, h1, h2⟩ := ih (o + 1) _ _ (h.set o v)
   refine ⟨RZ, h1, ?_⟩
   rw [h2]
   simp [QN]
theorem yc {B n : Nat} {w0 : World} : ∀ (vs : List Value) (o : Nat) (w : World), Below n w0 w → n ≤ B → Below n w0 (w.setCells B o vs) := by
 intro vs
 induction vs with
 | nil => intro o w h _; exact h
 | cons v vs ih => intro o w h hB; exact ih (o + 1) _ (h.setCell (p := ⟨B, o, none⟩) hB v) hB
theorem S_ (a b : Value) : ∀ (k j m : Nat), k ≤ m → QN (List.replicate j a ++ List.replicate m b) j (List.replicate k a) = List.replicate (j + k) a ++ List.replicate (m - k) b := by
 intro k
 induction k with
 | zero => intro j m _; simp [QN]
 | succ k ih =>
   intro j m h
   obtain ⟨m', rfl⟩ : ∃ m', m = m' + 1 := ⟨m - 1, by omega⟩
   show QN ((List.replicate j a ++ List.replicate (m' + 1) b).set j a) (j + 1) (List.replicate k a) = _
   have e : (List.replicate j a ++ List.replicate (m' + 1) b).set j a = List.replicate (j + 1) a ++ List.replicate m' b := by
    rw [List.set_append_right _ _ (by simp)]
    rw [List.length_replicate, Nat.sub_self, List.replicate_succ, List.set_cons_zero, show j + 1 = j + 1 from rfl, List.replicate_succ' (n := j), List.append_assoc]
    rfl
   rw [e, ih (j + 1) m' (by omega), show j + 1 + k = j + (k + 1) by omega, show m' - k = m' + 1 - (k + 1) by omega]
def Rep (w : World) (B n : Nat) (q : Int) (j : Nat) : Prop := ∃ arr, Row w B 22 arr ∧ arr.toList = List.replicate j (I q) ++ List.replicate (n - j) (I 0)
theorem Rep.cell {w : World} {B n : Nat} {q : Int} {j : Nat} (h : Rep w B n q j) {x : Nat} (hx : x < j) : w.cell? ⟨B, x, none⟩ = some (I q) := by
 obtain ⟨arr, hr, ha⟩ := h
 rw [hr.cell x, ← Array.getElem?_toList, ha, List.getElem?_append_left (by simpa using hx)]
 simp [hx]
theorem Rep.some {w : World} {B n : Nat} {q : Int} {j : Nat} (h : Rep w B n q j) {x : Nat} (hx : x < n) (hj : j ≤ n) : (w.cell? ⟨B, x, none⟩).isSome = true := by
 obtain ⟨arr, hr, ha⟩ := h
 have hs : arr.size = n := by rw [← Array.length_toList, ha]; simp; omega
 rw [hr.cell x, Array.getElem?_eq_getElem (by omega)]
 rfl
theorem Rep.free {w : World} {B n : Nat} {q : Int} {j : Nat} (h : Rep w B n q j) (x : Nat) : w.frozen? ⟨B, x, none⟩ = false := by
 obtain ⟨arr, hr, _⟩ := h
 exact hr.free x
theorem Rep.put {w : World} {B n : Nat} {q : Int} {j k : Nat} (h : Rep w B n q j) (hk : j + k ≤ n) : Rep (w.setCells B j (List.replicate k (I q))) B n q (j + k) := by
 obtain ⟨arr, hr, ha⟩ := h
 obtain ⟨RZ, h1, h2⟩ := hr.setCells (List.replicate k (I q)) j
 exact ⟨RZ, h1, by rw [h2, ha, S_ _ _ _ _ _ (by omega), show n - j - k = n - (j + k) by omega]⟩
theorem Rep.drew {w : World} {B n : Nat} {q : Int} {j : Nat} (h : Rep w B n q j) : Rep w.drew B n q j := h
theorem Rep.own {w : World} {B n base : Nat} {q : Int} (h : Rep w B n q n) (hb : base ≤ B) (hn : n ≤ 1000000) : Own w base (.slice (Option.some ⟨B, 0, none⟩) n n) (List.replicate n q) := by
 obtain ⟨arr, hr, ha⟩ := h
 have hs : arr.size = n := by rw [← Array.length_toList, ha]; simp
 have hl : (List.replicate n q).length = n := by simp
 refine Own.Ac ⟨by rw [hl]; simp, .inr ⟨B, n, arr, by rw [hl], hb, hr, by rw [hl]; omega, by simp only [maxLen]; omega, by rw [hs]; omega, ?_⟩⟩
 rw [hl, Nat.mul_one, ha, Nat.sub_self]
 simp
theorem LM (w : World) (ty : TypeId) (B j dLen dCap b sLen sCap k : Nat) (q : Int) (hk : k = Nat.min sLen dLen)
 (hsrc : ∀ x, x < k → w.cell? ⟨b, x, none⟩ = some (I q)) (hc : ∀ x, x < k → (w.cell? ⟨B, j + x, none⟩).isSome = true) (hf : ∀ x, w.frozen? ⟨B, x, none⟩ = false) :
 (Builtin.copy_ #[24, 24] ty #[.slice (some ⟨B, j, none⟩) dLen dCap, .slice (some ⟨b, 0, none⟩) sLen sCap]).run Try.prog w = .ok (I k) (w.setCells B j (List.replicate k (I q))) := by
 have h := run_copy_cells (P := Try.prog) w 24 24 ty 22 B j dLen dCap ⟨b, 0, none⟩ sLen sCap (List.replicate k (I q)) Try.underlying24 (by kernel_rfl) (by simpa using hk)
  (fun x v hx => by
    rw [List.getElem?_replicate] at hx
    split at hx
    · injection hx with hx
      subst hx
      have := hsrc x (by assumption)
      unfold Addr.add
      by_cases h0 : x = 0
      · subst h0; simpa using this
      · rw [if_neg h0]; simpa using this
    · cases hx)
  (fun x hx => hc x (by simpa using hx)) (fun x hx => hf _) (fun v hv => by rw [List.eq_of_mem_replicate hv]; rfl)
 simpa [goInt] using h
theorem QK (w : World) {ops : Array Oper} {o : Oper} {a : Act} {K : Act → World → Prop} {Q : Exit → Act → World → Prop} {E : Prop} (hg : o.guard = none) (d s : Operand)
 (hop : o.op = .call { callee := .builtin .copy, args := #[d, s], argTypes := #[24, 24] })
 (B j dLen dCap b sLen sCap k : Nat) (q : Int) (hd : a.eval d = .slice (some ⟨B, j, none⟩) dLen dCap) (hs : a.eval s = .slice (some ⟨b, 0, none⟩) sLen sCap) (hk : k = Nat.min sLen dLen)
 (hsrc : ∀ x, x < k → w.cell? ⟨b, x, none⟩ = some (I q)) (hc : ∀ x, x < k → (w.cell? ⟨B, j + x, none⟩).isSome = true) (hf : ∀ x, w.frozen? ⟨B, x, none⟩ = false)
 (hK : K (a.put o.dst (I k)) (w.setCells B j (List.replicate k (I q)))) :
 if Region.wanted o (yielded ops a.tmps) = true then Oper.wp Try.prog o a w K Q else E := by
 have hw : Region.wanted o (yielded ops a.tmps) = true := by simp [Region.wanted, hg]
 rw [if_pos hw]
 have hrun := LM w o.type B j dLen dCap b sLen sCap k q hk hsrc hc hf
 unfold Oper.wp execOp
 simp only [hop, resolve, invoke, builtin, Sem.run_bind, Sem.run_pure, Result.andThen_ok, List.map_toArray, List.map_cons, List.map_nil, hd, hs, hrun]
 exact hK
theorem Q3 (w : World) (n : Nat) (hn : n ≤ 1000000) : (Instr.makeSlice 24 (.int .i64 n) (.int .i64 n)).run Try.prog w = .ok (.slice (some ⟨w.heap.size, 0, none⟩) n n) (w.alloc (.cells (madeCells #[I 0] n) 22)) := by
 obtain ⟨i0, hi0, hz0, hz1, hz2⟩ := info_parts M_
 have := run_make (P := Try.prog) w 24 22 i0 (I 0) Try.underlying24 hi0 hz0 .i64 .i64 n n (by omega) (Int.le_refl _) (by rw [hz2]; omega) (by omega)
 rw [hz1] at this
 simpa [Value.cells] using this
theorem Q4 (n : Nat) : (madeCells #[I 0] n).toList = List.replicate n (I 0) := by
 unfold madeCells
 apply List.ext_getElem
 · simp
 · intro i h1 h2
   simp at h1 ⊢
   rw [Nat.mod_one]
   rfl
theorem I9 (b n : Nat) (q : Int) (w : World) (hb : w.cell? ⟨b, 0, none⟩ = some (I q)) (h1 : 1 ≤ n) (h8 : n ≤ 8) :
 Calls Try.prog 90 #[.slice (some ⟨b, 0, none⟩) 1 1, I n] w fun e w' => ∃ A c, e = .returned (.slice A n c) ∧ Own w' w.heap.size (.slice A n c) (List.replicate n q) ∧ Below w.heap.size w w' := by
 have hm : PQ.bits_Mul.f 1 (n : Int) = some ((0 : Int), (n : Int)) := by
  rcases (show n = 1 ∨ n = 2 ∨ n = 3 ∨ n = 4 ∨ n = 5 ∨ n = 6 ∨ n = 7 ∨ n = 8 by omega) with h | h | h | h | h | h | h | h <;> subst h <;> decide +kernel
 have HM := Lib.hid (fun w => PQ.bits_Mul.calls 1 n 0 n w hm)
 have e0 : decide ((n : Int) < 0) = false := decide_eq_false (by omega)
 have e1 : decide ((n : Int) > 9223372036854775807) = false := decide_eq_false (by omega)
 have e2 : IntKind.u64.wrap (n : Int) = n := by simp [IntKind.wrap, IntKind.bits, IntKind.signed]; omega
 have e3 : IntKind.i64.wrap (n : Int) = n := by simp [IntKind.wrap, IntKind.bits, IntKind.signed]; omega
 have H1 := Lib.hid h1
 have H8 := Lib.hid h8
 have HB := Lib.hid hb
 clear hm h1 h8 hb
 go_enter Try.func90, Try.ntmps90
 go_wp2_with fail
 refine (HM.out _).mono ?_
 rintro e w2 ⟨rfl, hd⟩
 have D2 := Lib.hid hd.below
 clear hd
 have hz := Q3 w2 n (by have := H8.out; omega)
 have R0 : Hid (Rep (w2.alloc (.cells (madeCells #[I 0] n) 22)) w2.heap.size n q 0) := Lib.hid ⟨_, Row.new _ _ _, by rw [Q4]; simp⟩
 have B2 : Hid (Below w.heap.size w (w2.alloc (.cells (madeCells #[I 0] n) 22))) := Lib.hid (D2.out.alloc D2.out.size _)
 have S2 : Hid (w.heap.size ≤ w2.heap.size) := Lib.hid D2.out.size
 have hb2 : Hid ((w2.alloc (.cells (madeCells #[I 0] n) 22)).cell? ⟨b, 0, none⟩ = some (I q)) := Lib.hid ((B2.out.cell (p := ⟨b, 0, none⟩) (cell_lt HB.out)).trans HB.out)
 have hx0 : ∀ x, x < 1 → (w2.alloc (.cells (madeCells #[I 0] n) 22)).cell? ⟨b, x, none⟩ = some (I q) := by
  intro x hx
  have : x = 0 := by omega
  subst this
  exact hb2.out
 have hx1 : ∀ x, x < 1 → ((w2.alloc (.cells (madeCells #[I 0] n) 22)).cell? ⟨w2.heap.size, 0 + x, none⟩).isSome = true := by
  intro x hx
  have := H1.out
  exact R0.out.some (by omega) (by omega)
 have hx2 : 1 = Nat.min 1 n := (Nat.min_eq_left H1.out).symm
 have hcp := LM (w2.alloc (.cells (madeCells #[I 0] n) 22)) 3 w2.heap.size 0 n n b 1 1 1 q hx2 hx0 hx1 R0.out.free
 clear hx0 hx1 hx2
 have R1 := Lib.hid (R0.out.put (k := 1) (by have := H1.out; omega))
 have B3 := Lib.hid (yc (B := w2.heap.size) (List.replicate 1 (I q)) 0 _ B2.out S2.out)
 obtain ⟨w3, hw3⟩ : ∃ w3, (w2.alloc (.cells (madeCells #[I 0] n) 22)).setCells w2.heap.size 0 (List.replicate 1 (I q)) = w3 := ⟨_, rfl⟩
 rw [hw3] at hcp R1 B3
 clear hw3
 go_wp2_with fail
 clear hcp hz R0 B2 hb2 D2
 go_loopw [8] (fun jj wr => ∃ j : Nat, 1 ≤ j ∧ j ≤ n ∧ jj = .int .i64 j ∧ Hid (Rep wr w2.heap.size n q j) ∧ Hid (Below w.heap.size w wr)) (fun jj _ => n - (intOf jj).toNat)
 case atStart => exact ⟨1, by omega, H1.out, rfl, by simpa using R1, B3⟩
 case round =>
  clear R1 B3
  obtain ⟨j, h1, hj, rfl, R, HB⟩ := hrel
  by_cases hjn : j = n
  · subst hjn
    go_wp2
    go_ret
    exact ⟨_, _, rfl, R.out.own S2.out (by have := H8.out; omega), HB.out⟩
  have hlt : (j : Int) < n := by omega
  have hj0 : (0 : Int) ≤ j := by omega
  have hjle : (j : Int) ≤ n := by omega
  have hne : ¬ n = j := by omega
  obtain ⟨k, hk⟩ : ∃ k, Nat.min j (n - j) = k := ⟨_, rfl⟩
  have hk2 : k ≤ j ∧ k ≤ n - j ∧ 1 ≤ k := by subst hk; exact ⟨Nat.min_le_left _ _, Nat.min_le_right _ _, Nat.le_min.2 ⟨h1, by omega⟩⟩
  have STEP : Hid (1 ≤ j + k ∧ j + k ≤ n ∧ n - (j + k) < n - j) := Lib.hid (by omega)
  have hw64 : IntKind.i64.wrap ((j : Int) + k) = ((j + k : Nat) : Int) := by have := H8.out; simp [IntKind.wrap, IntKind.bits, IntKind.signed]; omega
  have HK := Lib.hid hk
  have yN := Lib.hid hk2
  have HJ := Lib.hid (show 1 ≤ j ∧ j < n by omega)
  clear hk hk2 h1 hj hjn
  have hq0 : ∀ x, x < k → wr.drew.cell? ⟨w2.heap.size, x, none⟩ = some (I q) := fun x hx => R.out.drew.cell (by have := yN.out; omega)
  have hq1 : ∀ x, x < k → (wr.drew.cell? ⟨w2.heap.size, j + x, none⟩).isSome = true := fun x hx => R.out.drew.some (by have := yN.out; have := HJ.out; omega) (by have := HJ.out; omega)
  have Q0 := Lib.hid hq0
  have Q1 := Lib.hid hq1
  clear hq0 hq1
  go_wp2_with fail
  go_region_held3 (fun w' => True)
   (first | trivial)
   (first
     | (refine QK _ rfl (.tmp 41) (.tmp 44) rfl w2.heap.size j (n - j) (n - j) w2.heap.size j n k q rfl rfl HK.out.symm Q0.out Q1.out R.out.drew.free ?_
        have R2 := Lib.hid (R.out.drew.put (k := k) (by have := STEP.out; omega))
        have HB2 := Lib.hid (yc (B := w2.heap.size) (List.replicate k (I q)) j _ HB.out.drew S2.out)
        generalize wr.drew.setCells w2.heap.size j (List.replicate k (I q)) = w4 at R2 HB2 ⊢))
  all_goals
   go_wp2
   go_roundw
   case rel => exact ⟨j + k, STEP.out.1, STEP.out.2.1, by go_num, R2, HB2⟩
   case measure =>
    have h := STEP.out.2.2
    show n - ((j + k : Nat) : Int).toNat < n - ((j : Int)).toNat
    rw [Int.toNat_natCast, Int.toNat_natCast]
    exact h
def rq (n : Nat) : List Int := jf (List.replicate n 16777216)
theorem Rn (n : Nat) (w : World) (h1 : 1 ≤ n) (h8 : n ≤ 8) :
 Calls Try.prog 70 #[I n] w fun e w' => ∃ v, e = .returned (.tuple #[.agg #[I n, I n, v], I 0]) ∧ Own w' w.heap.size v (rq n) ∧ Below w.heap.size w w' := by
 have N : Hid (fF w [(26, #[I 0, I 0, .slice none 0 0]), (22, #[I 16777216])] ((w.alloc (.cells #[I 0, I 0, .slice none 0 0] 26)).alloc (.cells #[I 16777216] 22))) := Lib.hid (((fF.none w).push (by simp) _ _).push (by simp) _ _)
 have e1 : decide ((n : Int) < 1) = false := decide_eq_false (by omega)
 have e2 : decide ((n : Int) > 8) = false := decide_eq_false (by omega)
 have HR := Lib.hid (I9 (w.heap.size + 1) n 16777216 _ (N.out.r1.cell 0) h1 h8)
 have hany : (List.replicate n (16777216 : Int)).any jV = false := by
  rw [List.any_eq_false]
  intro x hx
  rw [List.eq_of_mem_replicate hx]
  decide
 have hlen : (List.replicate n (16777216 : Int)).length = n := by simp
 have HD := Lib.hid (fun A c w' h => CY A c (List.replicate n 16777216) w' h (by rw [hlen]; exact h1) (by rw [hlen]; exact h8) hany)
 obtain ⟨L, hL⟩ : ∃ L, rq n = L := ⟨_, rfl⟩
 rw [hL]
 unfold rq at hL
 rw [hlen, hL] at HD
 clear h1 h8 hany hlen hL
 go_enter Try.func70, Try.ntmps70
 go_wp2_with fail
 refine HR.out.mono ?_
 rintro e w2 ⟨A, c, rfl, ho, hb⟩
 have N2 := Lib.hid (N.out.below hb)
 obtain ⟨A', c', he, _, hr⟩ := ho.reads
 injection he with e1 e2 e3
 subst e1 e3
 have HR2 := Lib.hid hr
 clear hb ho hr e2 HR
 go_wp2_with fail
 refine (HD.out _ _ _ HR2.out).mono ?_
 rintro e w3 ⟨v, rfl, ho, hb⟩
 obtain ⟨A3, c3, rfl, _, _⟩ := ho.reads
 have O := Lib.hid ho
 have N3 := Lib.hid (N2.out.below hb)
 have L2 := N2.out.r1.lt
 clear hb ho
 have x0 := N3.out.r0.cell
 have g0 := N3.out.r0.free
 have t0 := N3.out.r0.lt
 go_wp2
 refine bodyPost_ret (EZ rfl rfl (N3.out.r0.gy _ _ _)) rfl ⟨_, rfl, ?_, Below.gy N3.out.be (by omega) _ _ _⟩
 exact (O.out.gy (by omega) _ _ _).lower (by omega)
end Go.Proofs.Ytninmcmajbfccaa.KK

namespace Go.Proofs.Ytninmcmajbfccaa.PQ
open Go.RowKit Go.Proofs.aH.bK Go.Proofs.aH.dG Go.Proofs.aH.dJ Go.Proofs.Ytninmcmajbfccaa.KK
set_option linter.unusedVariables false
set_option linter.unusedSimpArgs false
theorem Oh (c : Nat) (l : List Int) (w : World) (hl : l.length = 0) :
 Calls Try.prog 31 #[.slice none l.length c] w fun e w' => ∃ v, e = .returned v ∧ Own w' w.heap.size v l ∧ Below w.heap.size w w' := by
 obtain rfl := List.eq_nil_of_length_eq_zero hl
 have he : ∀ w : World, (binOp .eql 24 (.slice none 0 c) (.slice none 0 0)).run Try.prog w = .ok (.bool true) w := fun _ => rfl
 go_enter Try.func31, Try.ntmps31
 go_wp2
 go_ret
 exact ⟨_, rfl, Own.nil _ _, Below.refl _ _⟩
def jc.f (aQ : Int) (a_ : Int) (aY : List Int) : Option Bool := some (jO aQ a_ aY)
theorem jc.calls (aQ : Int) (a_ : Int) (cO : Option Addr) (cu : Nat) (aY : List Int) (r : Bool) (w : World) (jl : Kd.C (Kd.int .i64) w cO aY.length aY) (jD : aY.length ≤ cu) (h : jc.f aQ a_ aY = some r) :
 Calls Try.prog 39 #[.agg #[.int .i64 aQ, .int .i64 a_, .slice cO aY.length cu]] w fun e w' => e = .returned (.bool r) ∧ Below w.heap.size w w' := by
 obtain rfl : jO aQ a_ aY = r := by unfold jc.f at h; injection h
 exact rP aQ a_ cO cu aY w jl
theorem Tu {a b : Int} {n : Nat} (ha : 0 ≤ a) (hb : 0 ≤ b) (h : (n : Int) = a * b) : n = a.toNat * b.toNat := by
 obtain ⟨x, rfl⟩ := Int.eq_ofNat_of_zero_le ha
 obtain ⟨y, rfl⟩ := Int.eq_ofNat_of_zero_le hb
 simp only [Int.toNat_natCast]
 exact_mod_cast h
theorem toInt {a : Int} (ha : 0 ≤ a) : ((a.toNat : Nat) : Int) = a := by omega
def jy.f (aQ : Int) (a_ : Int) (aY : List Int) : Option (Int × Int × List Int) := if 0 ≤ aQ ∧ aQ ≤ 8 ∧ 0 ≤ a_ ∧ a_ ≤ 8 ∧ (aY.length : Int) = aQ * a_ then some (a_, aQ, AY aQ.toNat a_.toNat aY) else none
theorem jy.calls (aQ : Int) (a_ : Int) (cO : Option Addr) (cu : Nat) (aY : List Int) (r1 : Int) (r2 : Int) (r3 : List Int) (w : World) (jl : Kd.C (Kd.int .i64) w cO aY.length aY) (jD : aY.length ≤ cu) (h : jy.f aQ a_ aY = some (r1, r2, r3)) :
 Calls Try.prog 41 #[.agg #[.int .i64 aQ, .int .i64 a_, .slice cO aY.length cu]] w fun e w' => ∃ wX : Value, e = .returned (.agg #[.int .i64 r1, .int .i64 r2, wX]) ∧ Kd.R (Kd.int .i64) 22 w' w.heap.size (fun _ => True) wX r3 ∧ Below w.heap.size w w' := by
 unfold jy.f at h
 split at h
 · rename_i hs
   obtain ⟨s0, s1, s2, s3, s4⟩ := hs
   simp only [Option.some.injEq, Prod.mk.injEq] at h
   obtain ⟨rfl, rfl, rfl⟩ := h
   have := rO aQ.toNat a_.toNat cO cu aY w (by omega) (by omega) (Tu s0 s2 s4) jl
   rw [toInt s0, toInt s2] at this
   exact this
 · cases h
def lU.f (aQ : Int) (a_ : Int) (aY : List Int) (dS : Int) (dZ : Int) (dI : List Int) : Option (Int × Int × List Int × Bool × Int) :=
 if a_ = dS then (if (0 ≤ aQ ∧ aQ ≤ 8 ∧ 0 ≤ a_ ∧ a_ ≤ 8 ∧ (aY.length : Int) = aQ * a_) ∧ (0 ≤ dS ∧ dS ≤ 8 ∧ 0 ≤ dZ ∧ dZ ≤ 8 ∧ (dI.length : Int) = dS * dZ) then some (aQ, dZ, mulL aQ.toNat a_.toNat dZ.toNat aY dI, Ad aQ.toNat a_.toNat dZ.toNat aY dI, 0) else none) else some (0, 0, [], false, 9)
theorem lU.calls (aQ : Int) (a_ : Int) (cO : Option Addr) (cu : Nat) (aY : List Int) (dS : Int) (dZ : Int) (gY : Option Addr) (g_ : Nat) (dI : List Int) (r1 : Int) (r2 : Int) (r3 : List Int) (r4 : Bool) (r5 : Int) (w : World) (jl : Kd.C (Kd.int .i64) w cO aY.length aY) (jD : aY.length ≤ cu) (oM : Kd.C (Kd.int .i64) w gY dI.length dI) (o9 : dI.length ≤ g_) (h : lU.f aQ a_ aY dS dZ dI = some (r1, r2, r3, r4, r5)) :
 Calls Try.prog 46 #[.agg #[.int .i64 aQ, .int .i64 a_, .slice cO aY.length cu], .agg #[.int .i64 dS, .int .i64 dZ, .slice gY dI.length g_]] w fun e w' => ∃ wX : Value, e = .returned (.tuple #[.agg #[.int .i64 r1, .int .i64 r2, wX], .bool r4, .int .i64 r5]) ∧ Kd.R (Kd.int .i64) 22 w' w.heap.size (fun _ => True) wX r3 ∧ Below w.heap.size w w' := by
 unfold lU.f at h
 split at h
 · rename_i he
   subst he
   split at h
   · rename_i hs
     obtain ⟨⟨s0, s1, s2, s3, s4⟩, t0, t1, t2, t3, t4⟩ := hs
     simp only [Option.some.injEq, Prod.mk.injEq] at h
     obtain ⟨rfl, rfl, rfl, rfl, rfl⟩ := h
     have := Ep aQ.toNat a_.toNat dZ.toNat cO gY cu g_ aY dI w (by omega) (by omega) (by omega) (Tu s0 s2 s4) (Tu t0 t2 t4) jl oM
     rw [toInt s0, toInt s2, toInt t2] at this
     exact this
   · cases h
 · rename_i he
   simp only [Option.some.injEq, Prod.mk.injEq] at h
   obtain ⟨rfl, rfl, rfl, rfl, rfl⟩ := h
   refine (KL aQ a_ dS dZ cO gY cu g_ aY dI w he).mono ?_
   rintro e w' ⟨rfl, hb⟩
   exact ⟨_, rfl, Own.nil _ _, hb⟩
def uF.f (aQ : Int) (a_ : Int) (aY : List Int) : Option (Int × Int × List Int × Bool × Int) := if aQ = a_ ∧ 0 ≤ aQ ∧ aQ ≤ 8 ∧ 0 ≤ a_ ∧ a_ ≤ 8 ∧ (aY.length : Int) = aQ * a_ then some (aQ, a_, DL aQ.toNat aY, oP o_ aQ.toNat aQ.toNat aY (AY aQ.toNat aQ.toNat aY), 0) else none
theorem uF.calls (aQ : Int) (a_ : Int) (cO : Option Addr) (cu : Nat) (aY : List Int) (r1 : Int) (r2 : Int) (r3 : List Int) (r4 : Bool) (r5 : Int) (w : World) (jl : Kd.C (Kd.int .i64) w cO aY.length aY) (jD : aY.length ≤ cu) (h : uF.f aQ a_ aY = some (r1, r2, r3, r4, r5)) :
 Calls Try.prog 38 #[.agg #[.int .i64 aQ, .int .i64 a_, .slice cO aY.length cu]] w fun e w' => ∃ wX : Value, e = .returned (.tuple #[.agg #[.int .i64 r1, .int .i64 r2, wX], .bool r4, .int .i64 r5]) ∧ Kd.R (Kd.int .i64) 22 w' w.heap.size (fun _ => True) wX r3 ∧ Below w.heap.size w w' := by
 unfold uF.f at h
 split at h
 · rename_i hs
   obtain ⟨rfl, s0, s1, s2, s3, s4⟩ := hs
   simp only [Option.some.injEq, Prod.mk.injEq] at h
   obtain ⟨rfl, rfl, rfl, rfl, rfl⟩ := h
   have := Rt aQ.toNat cO cu aY w (by omega) (Tu s0 s2 s4) jl jD
   rw [toInt s0] at this
   exact this
 · cases h
def o8.f (l0 : List Int) : Option (Int × Int × List Int × Int) := if l0.length < 1 ∨ l0.length > 8 ∨ l0.any jV = true then some (0, 0, [], 1) else some (l0.length, l0.length, jf l0, 0)
theorem o8.calls (A0 : Option Addr) (c0 : Nat) (l0 : List Int) (r1 : Int) (r2 : Int) (r3 : List Int) (r4 : Int) (w : World) (hr0 : Kd.C (Kd.int .i64) w A0 l0.length l0) (hc0 : l0.length ≤ c0) (h : o8.f l0 = some (r1, r2, r3, r4)) :
 Calls Try.prog 30 #[.slice A0 l0.length c0] w fun e w' => ∃ wX : Value, e = .returned (.tuple #[.agg #[.int .i64 r1, .int .i64 r2, wX], .int .i64 r4]) ∧ Kd.R (Kd.int .i64) 22 w' w.heap.size (fun _ => True) wX r3 ∧ Below w.heap.size w w' := by
 unfold o8.f at h
 split at h
 · rename_i hs
   simp only [Option.some.injEq, Prod.mk.injEq] at h
   obtain ⟨rfl, rfl, rfl, rfl⟩ := h
   refine (Ul A0 c0 l0 w hr0 hs).mono ?_
   rintro e w' ⟨rfl, hb⟩
   exact ⟨_, rfl, Own.nil _ _, hb⟩
 · rename_i hs
   simp only [Option.some.injEq, Prod.mk.injEq] at h
   obtain ⟨rfl, rfl, rfl, rfl⟩ := h
   exact CY A0 c0 l0 w hr0 (by omega) (by omega) (by simpa using fun e => hs (.inr (.inr e)))
def lJ.f (l0 : List Int) : Option (List Int) := if l0.length ≤ 1000000 then some l0 else none
theorem lJ.calls (A0 : Option Addr) (c0 : Nat) (l0 : List Int) (r : List Int) (w : World) (hr0 : Kd.C (Kd.int .i64) w A0 l0.length l0) (hc0 : l0.length ≤ c0) (h : lJ.f l0 = some r) :
 Calls Try.prog 31 #[.slice A0 l0.length c0] w fun e w' => ∃ v0_ : Value, e = .returned (v0_) ∧ Kd.R (Kd.int .i64) 22 w' w.heap.size (fun _ => True) v0_ r ∧ Below w.heap.size w w' := by
 unfold lJ.f at h
 split at h
 · injection h with h
   subst h
   cases A0 with
   | none =>
     have h0 : l0.length = 0 := by
      rcases Nat.eq_zero_or_pos l0.length with h | h
      · exact h
      · obtain ⟨_, e, _⟩ := hr0.2.2 h; cases e
     exact Oh c0 l0 w h0
   | some ad => exact DT (some ad) c0 l0 w hr0 (by assumption) (fun e => by cases e)
 · cases h
end Go.Proofs.Ytninmcmajbfccaa.PQ

namespace Go.Proofs.Ytninmcmajbfccaa.PQ
open Go.RowKit Go.Proofs.aH.bK Go.Proofs.aH.dG Go.Proofs.aH.dJ
attribute [local go_sem] jS jQ kT kS ji jh jR jP
set_option linter.unusedVariables false
set_option linter.unusedSimpArgs false
def rW.f (k : Nat) (aQ : Int) (a_ : Int) (aY : List Int) (dw : Int) (dB : Int) (bV : List Int) (dS : Int) (dZ : Int) (dI : List Int) (mO : Int) (mM : Int) (kJ : List Int) : Option (Bool) := (gX.f k aQ a_ aY dS dZ dI).bind fun QI => (if QI = true then ((gX.f k dw dB bV mO mM kJ).bind fun J_ => (some J_)) else (some false))
theorem rW.calls (k : Nat) (aQ : Int) (a_ : Int) (cO : Option Addr) (cu : Nat) (aY : List Int) (dw : Int) (dB : Int) (gp : Option Addr) (fZ : Nat) (bV : List Int) (dS : Int) (dZ : Int) (gY : Option Addr) (g_ : Nat) (dI : List Int) (mO : Int) (mM : Int) (qO : Option Addr) (qP : Nat) (kJ : List Int) (r : Bool) (w : World) (jl : Kd.C (Kd.int .i64) w cO aY.length aY) (jD : aY.length ≤ cu) (vw : Kd.C (Kd.int .i64) w gp bV.length bV) (vK : bV.length ≤ fZ) (oM : Kd.C (Kd.int .i64) w gY dI.length dI) (o9 : dI.length ≤ g_) (DF : Kd.C (Kd.int .i64) w qO kJ.length kJ) (DI : kJ.length ≤ qP) (h : rW.f k aQ a_ aY dw dB bV dS dZ dI mO mM kJ = some r) :
 Calls Try.prog 23 #[.agg #[.int .i64 aQ, .int .i64 a_, .slice cO aY.length cu, .int .i64 dw, .int .i64 dB, .slice gp bV.length fZ], .agg #[.int .i64 dS, .int .i64 dZ, .slice gY dI.length g_, .int .i64 mO, .int .i64 mM, .slice qO kJ.length qP]] w fun e w' => e = .returned (.bool r) ∧ Below w.heap.size w w' := by
 have Q7 := Try.underlying28
 have yz := Try.underlying26
 have kC := ah.mk jl
 have lM := ah.mk jD
 clear jl jD
 have nO := ah.mk vw
 have t_ := ah.mk vK
 clear vw vK
 have tV := ah.mk oM
 have vW := ah.mk o9
 clear oM o9
 have UI := ah.mk DF
 have UN := ah.mk DI
 clear DF DI
 have HB := ah.mk (Below.refl w.heap.size w)
 have H : ((gX.f k aQ a_ aY dS dZ dI).bind fun QI => (if QI = true then ((gX.f k dw dB bV mO mM kJ).bind fun J_ => (some J_)) else (some false))) = some r := h
 clear h
 replace H := Option.bind_eq_some_iff.mp H
 obtain ⟨QI, xU, H⟩ := H
 replace H : (if QI = true then ((gX.f k dw dB bV mO mM kJ).bind fun J_ => (some J_)) else (some false)) = some r := H
 have A3 := ah.mk xU
 clear xU
 by_cases c4 : QI = true
 · subst c4
   rw [if_pos rfl] at H
   replace H := Option.bind_eq_some_iff.mp H
   obtain ⟨J_, QD, H⟩ := H
   replace H : (some J_) = some r := H
   have A5 := ah.mk QD
   clear QD
   obtain rfl := Option.some.inj H
   go_enter Try.func23, Try.ntmps23
   go_wp2_with (first | ((with_reducible refine dY (N := 2) rfl ?_); refine dH ?hg (N := 2) ?hd (cs := #[.int .i64 aQ, .int .i64 a_, .slice cO aY.length cu, .int .i64 dw, .int .i64 dB, .slice gp bV.length fZ]) (t := 28) ?hr ?_; (case hd => rfl); (case hg => rfl); (case hr => first | (go_simp; done) | (go_simp; rfl)); intro jY hg w6 hbox hb; have bT := ah.mk (aI (by repeat (first | (with_reducible first | exact HB.out | apply au | apply af | apply ak) | exact HB.out)) hb); have dD := ah.mk (hbox); have dQ := ah.mk ((by rw [hg]; exact (aW (by repeat (first | (with_reducible first | exact HB.out | apply au | apply af | apply ak) | exact HB.out))) : w.heap.size ≤ jY)); have eH := ah.mk ((by rw [hg]; exact (aW (by repeat (first | (with_reducible first | exact HB.out | apply au | apply af | apply ak) | exact HB.out))) : w.heap.size ≤ jY)); clear HB; have HB := bT; have iC := dD; have ac5 := dQ; have xO := eH; clear bT dD dQ eH; clear hb hbox hg) | ((with_reducible refine dY (N := 3) rfl ?_); refine dH ?hg (N := 3) ?hd (cs := #[.int .i64 dS, .int .i64 dZ, .slice gY dI.length g_, .int .i64 mO, .int .i64 mM, .slice qO kJ.length qP]) (t := 28) ?hr ?_; (case hd => rfl); (case hg => rfl); (case hr => first | (go_simp; done) | (go_simp; rfl)); intro kW hg w7 hbox hb; have bT := ah.mk (bg (g := jY) (o := .cells #[.int .i64 aQ, .int .i64 a_, .slice cO aY.length cu, .int .i64 dw, .int .i64 dB, .slice gp bV.length fZ] 28 (0, 0)) (by (with_reducible repeat (first | refine ay ?_ _ | refine aC ?_ | refine az ?_ _)); exact iC.out) hb); have dD := ah.mk (aI (by repeat (first | (with_reducible first | exact HB.out | apply au | apply af | apply ak | refine aG ?_ xO.out) | exact HB.out)) hb); have dQ := ah.mk (hbox); have eH := ah.mk ((by rw [hg]; exact (aW (by repeat (first | (with_reducible first | exact HB.out | apply au | apply af | apply ak | refine aG ?_ xO.out) | exact HB.out))) : w.heap.size ≤ kW)); have iw := ah.mk ((by rw [hg]; exact (aW (by repeat (first | (with_reducible first | exact HB.out | apply au | apply af | apply ak | refine aG ?_ xO.out) | exact HB.out))) : w.heap.size ≤ kW)); have iQ := ah.mk ((by rw [hg]; exact Nat.ne_of_lt (dP (g := jY) (o := .cells #[.int .i64 aQ, .int .i64 a_, .slice cO aY.length cu, .int .i64 dw, .int .i64 dB, .slice gp bV.length fZ] 28 (0, 0)) (by (with_reducible repeat (first | refine ay ?_ _ | refine aC ?_ | refine az ?_ _)); exact iC.out)) : jY ≠ kW)); have jk := ah.mk ((by rw [hg]; exact Nat.ne_of_gt (dP (g := jY) (o := .cells #[.int .i64 aQ, .int .i64 a_, .slice cO aY.length cu, .int .i64 dw, .int .i64 dB, .slice gp bV.length fZ] 28 (0, 0)) (by (with_reducible repeat (first | refine ay ?_ _ | refine aC ?_ | refine az ?_ _)); exact iC.out)) : kW ≠ jY)); clear iC; clear HB; have iC := bT; have HB := dD; have iY := dQ; have ac4 := eH; have Iz := iw; have Dh := iQ; have Df := jk; clear bT dD dQ eH iw iQ jk; clear hb hbox hg; have VB := Dh.out; have VA := Df.out; have qZ : w7.cell? ⟨jY, 0, none⟩ = some (.int .i64 aQ) := (aj iC.out 0).trans rfl; have sZ : w7.cell? ⟨jY, 1, none⟩ = some (.int .i64 a_) := (aj iC.out 1).trans rfl; have sW : w7.cell? ⟨jY, 2, none⟩ = some (.slice cO aY.length cu) := (aj iC.out 2).trans rfl; have Zl : w7.cell? ⟨jY, 3, none⟩ = some (.int .i64 dw) := (aj iC.out 3).trans rfl; have Zk : w7.cell? ⟨jY, 4, none⟩ = some (.int .i64 dB) := (aj iC.out 4).trans rfl; have Zj : w7.cell? ⟨jY, 5, none⟩ = some (.slice gp bV.length fZ) := (aj iC.out 5).trans rfl; have qY := aA iC.out 0; have sS := aA iC.out 1; have sQ := aA iC.out 2; have Zh := aA iC.out 3; have Zg := aA iC.out 4; have Zf := aA iC.out 5; have pX : w7.cell? ⟨kW, 0, none⟩ = some (.int .i64 dS) := (aj iY.out 0).trans rfl; have pW : w7.cell? ⟨kW, 1, none⟩ = some (.int .i64 dZ) := (aj iY.out 1).trans rfl; have pV : w7.cell? ⟨kW, 2, none⟩ = some (.slice gY dI.length g_) := (aj iY.out 2).trans rfl; have um : w7.cell? ⟨kW, 3, none⟩ = some (.int .i64 mO) := (aj iY.out 3).trans rfl; have uk : w7.cell? ⟨kW, 4, none⟩ = some (.int .i64 mM) := (aj iY.out 4).trans rfl; have uj : w7.cell? ⟨kW, 5, none⟩ = some (.slice qO kJ.length qP) := (aj iY.out 5).trans rfl; have pU := aA iY.out 0; have pR := aA iY.out 1; have pO := aA iY.out 2; have uh := aA iY.out 3; have ug := aA iY.out 4; have uf := aA iY.out 5) | ((with_reducible refine aV (f := 40) rfl ?_); refine cZ (some 9) rfl rfl Try.func40 (by kernel_rfl) rfl #[.agg #[.int .i64 aQ, .int .i64 a_, .slice cO aY.length cu], .agg #[.int .i64 dS, .int .i64 dZ, .slice gY dI.length g_]] rfl (by (try simp only [List.map_toArray, List.map_cons, List.map_nil]); first | done | rfl | (simp only [List.length_drop, List.length_take]; rfl)) ?_; (with_reducible refine (gX.calls k aQ a_ _ _ aY dS dZ _ _ dI true _ ?eY ?eX ?lZ ?nU A3.out).mono ?_); (case eY => repeat (first | exact (Kd.fB kC.out HB.out) | (with_reducible refine Kd.fE ?_ _) | (with_reducible refine Kd.fD ?_ _) | (with_reducible refine Kd.gm ?_))); (case eX => exact lM.out); (case lZ => repeat (first | exact (Kd.fB tV.out HB.out) | (with_reducible refine Kd.fE ?_ _) | (with_reducible refine Kd.fD ?_ _) | (with_reducible refine Kd.gm ?_))); (case nU => exact vW.out); rintro e wY ⟨rfl, hb⟩; refine ⟨_, rfl, ?_⟩; have bT := ah.mk (bg (g := jY) (o := .cells #[.int .i64 aQ, .int .i64 a_, .slice cO aY.length cu, .int .i64 dw, .int .i64 dB, .slice gp bV.length fZ] 28 (0, 0)) (by (with_reducible repeat (first | refine ay ?_ _ | refine aC ?_ | refine az ?_ _)); exact iC.out) hb); have dD := ah.mk (bg (g := kW) (o := .cells #[.int .i64 dS, .int .i64 dZ, .slice gY dI.length g_, .int .i64 mO, .int .i64 mM, .slice qO kJ.length qP] 28 (0, 0)) (by (with_reducible repeat (first | refine ay ?_ _ | refine aC ?_ | refine az ?_ _)); exact iY.out) hb); have dQ := ah.mk (aI (by repeat (first | (with_reducible first | exact HB.out | apply au | apply af | apply ak | refine aG ?_ xO.out | refine aG ?_ Iz.out) | exact HB.out)) hb); clear iC; clear iY; clear HB; have iC := bT; have iY := dD; have HB := dQ; clear bT dD dQ; (try clear hb); (try clear hb2); (try clear hk); (try clear hi); have nN : wY.cell? ⟨jY, 0, none⟩ = some (.int .i64 aQ) := (aj iC.out 0).trans rfl; have nM : wY.cell? ⟨jY, 1, none⟩ = some (.int .i64 a_) := (aj iC.out 1).trans rfl; have nK : wY.cell? ⟨jY, 2, none⟩ = some (.slice cO aY.length cu) := (aj iC.out 2).trans rfl; have Xw : wY.cell? ⟨jY, 3, none⟩ = some (.int .i64 dw) := (aj iC.out 3).trans rfl; have Xv : wY.cell? ⟨jY, 4, none⟩ = some (.int .i64 dB) := (aj iC.out 4).trans rfl; have Xu : wY.cell? ⟨jY, 5, none⟩ = some (.slice gp bV.length fZ) := (aj iC.out 5).trans rfl; have nJ := aA iC.out 0; have nI := aA iC.out 1; have nH := aA iC.out 2; have WE := aA iC.out 3; have WC := aA iC.out 4; have WB := aA iC.out 5; have EJ : wY.cell? ⟨kW, 0, none⟩ = some (.int .i64 dS) := (aj iY.out 0).trans rfl; have EI : wY.cell? ⟨kW, 1, none⟩ = some (.int .i64 dZ) := (aj iY.out 1).trans rfl; have EH : wY.cell? ⟨kW, 2, none⟩ = some (.slice gY dI.length g_) := (aj iY.out 2).trans rfl; have Xt : wY.cell? ⟨kW, 3, none⟩ = some (.int .i64 mO) := (aj iY.out 3).trans rfl; have Xr : wY.cell? ⟨kW, 4, none⟩ = some (.int .i64 mM) := (aj iY.out 4).trans rfl; have Xq : wY.cell? ⟨kW, 5, none⟩ = some (.slice qO kJ.length qP) := (aj iY.out 5).trans rfl; have ED := aA iY.out 0; have EC := aA iY.out 1; have Ez := aA iY.out 2; have WA := aA iY.out 3; have Wy := aA iY.out 4; have Wx := aA iY.out 5) | (go_at_call 40; (with_reducible refine (gX.calls k dw dB _ _ bV mO mM _ _ kJ J_ _ ?eY ?eX ?lZ ?nU A5.out).mono ?_); (case eY => repeat (first | exact (Kd.fB nO.out HB.out) | (with_reducible refine Kd.fE ?_ _) | (with_reducible refine Kd.fD ?_ _) | (with_reducible refine Kd.gm ?_))); (case eX => exact t_.out); (case lZ => repeat (first | exact (Kd.fB UI.out HB.out) | (with_reducible refine Kd.fE ?_ _) | (with_reducible refine Kd.fD ?_ _) | (with_reducible refine Kd.gm ?_))); (case nU => exact UN.out); rintro e U6 ⟨rfl, hb⟩; have bT := ah.mk (bg (g := jY) (o := .cells #[.int .i64 aQ, .int .i64 a_, .slice cO aY.length cu, .int .i64 dw, .int .i64 dB, .slice gp bV.length fZ] 28 (0, 0)) (by (with_reducible repeat (first | refine ay ?_ _ | refine aC ?_ | refine az ?_ _)); exact iC.out) hb); have dD := ah.mk (bg (g := kW) (o := .cells #[.int .i64 dS, .int .i64 dZ, .slice gY dI.length g_, .int .i64 mO, .int .i64 mM, .slice qO kJ.length qP] 28 (0, 0)) (by (with_reducible repeat (first | refine ay ?_ _ | refine aC ?_ | refine az ?_ _)); exact iY.out) hb); have dQ := ah.mk (aI (by repeat (first | (with_reducible first | exact HB.out | apply au | apply af | apply ak | refine aG ?_ xO.out | refine aG ?_ Iz.out) | exact HB.out)) hb); clear iC; clear iY; clear HB; have iC := bT; have iY := dD; have HB := dQ; clear bT dD dQ; (try clear hb); (try clear hb2); (try clear hk); (try clear hi)))
   go_ret
   exact ⟨by first | rfl | (simp [aU, aT] <;> rfl) | (simp [*, aU, aT] <;> rfl), by repeat (first | (with_reducible first | exact HB.out | apply au | apply af | apply ak | refine aG ?_ xO.out | refine aG ?_ Iz.out) | exact HB.out)⟩
 · replace c4 := Bool.eq_false_iff.mpr c4
   subst c4
   have H1 : (some false) = some r := by rw [if_neg (show ¬ (false = true) by decide)] at H; exact H
   clear H
   have H := H1
   clear H1
   obtain rfl := Option.some.inj H
   go_enter Try.func23, Try.ntmps23
   go_wp2_with (first | ((with_reducible refine dY (N := 2) rfl ?_); refine dH ?hg (N := 2) ?hd (cs := #[.int .i64 aQ, .int .i64 a_, .slice cO aY.length cu, .int .i64 dw, .int .i64 dB, .slice gp bV.length fZ]) (t := 28) ?hr ?_; (case hd => rfl); (case hg => rfl); (case hr => first | (go_simp; done) | (go_simp; rfl)); intro jY hg w15 hbox hb; have bT := ah.mk (aI (by repeat (first | (with_reducible first | exact HB.out | apply au | apply af | apply ak) | exact HB.out)) hb); have dD := ah.mk (hbox); have dQ := ah.mk ((by rw [hg]; exact (aW (by repeat (first | (with_reducible first | exact HB.out | apply au | apply af | apply ak) | exact HB.out))) : w.heap.size ≤ jY)); have eH := ah.mk ((by rw [hg]; exact (aW (by repeat (first | (with_reducible first | exact HB.out | apply au | apply af | apply ak) | exact HB.out))) : w.heap.size ≤ jY)); clear HB; have HB := bT; have iC := dD; have ac5 := dQ; have xO := eH; clear bT dD dQ eH; clear hb hbox hg) | ((with_reducible refine dY (N := 3) rfl ?_); refine dH ?hg (N := 3) ?hd (cs := #[.int .i64 dS, .int .i64 dZ, .slice gY dI.length g_, .int .i64 mO, .int .i64 mM, .slice qO kJ.length qP]) (t := 28) ?hr ?_; (case hd => rfl); (case hg => rfl); (case hr => first | (go_simp; done) | (go_simp; rfl)); intro kW hg w16 hbox hb; have bT := ah.mk (bg (g := jY) (o := .cells #[.int .i64 aQ, .int .i64 a_, .slice cO aY.length cu, .int .i64 dw, .int .i64 dB, .slice gp bV.length fZ] 28 (0, 0)) (by (with_reducible repeat (first | refine ay ?_ _ | refine aC ?_ | refine az ?_ _)); exact iC.out) hb); have dD := ah.mk (aI (by repeat (first | (with_reducible first | exact HB.out | apply au | apply af | apply ak | refine aG ?_ xO.out) | exact HB.out)) hb); have dQ := ah.mk (hbox); have eH := ah.mk ((by rw [hg]; exact (aW (by repeat (first | (with_reducible first | exact HB.out | apply au | apply af | apply ak | refine aG ?_ xO.out) | exact HB.out))) : w.heap.size ≤ kW)); have iw := ah.mk ((by rw [hg]; exact (aW (by repeat (first | (with_reducible first | exact HB.out | apply au | apply af | apply ak | refine aG ?_ xO.out) | exact HB.out))) : w.heap.size ≤ kW)); have iQ := ah.mk ((by rw [hg]; exact Nat.ne_of_lt (dP (g := jY) (o := .cells #[.int .i64 aQ, .int .i64 a_, .slice cO aY.length cu, .int .i64 dw, .int .i64 dB, .slice gp bV.length fZ] 28 (0, 0)) (by (with_reducible repeat (first | refine ay ?_ _ | refine aC ?_ | refine az ?_ _)); exact iC.out)) : jY ≠ kW)); have jk := ah.mk ((by rw [hg]; exact Nat.ne_of_gt (dP (g := jY) (o := .cells #[.int .i64 aQ, .int .i64 a_, .slice cO aY.length cu, .int .i64 dw, .int .i64 dB, .slice gp bV.length fZ] 28 (0, 0)) (by (with_reducible repeat (first | refine ay ?_ _ | refine aC ?_ | refine az ?_ _)); exact iC.out)) : kW ≠ jY)); clear iC; clear HB; have iC := bT; have HB := dD; have iY := dQ; have ac4 := eH; have Iz := iw; have Dh := iQ; have Df := jk; clear bT dD dQ eH iw iQ jk; clear hb hbox hg; have aa9 := Dh.out; have aa1 := Df.out; have Js : w16.cell? ⟨jY, 0, none⟩ = some (.int .i64 aQ) := (aj iC.out 0).trans rfl; have Qe : w16.cell? ⟨jY, 1, none⟩ = some (.int .i64 a_) := (aj iC.out 1).trans rfl; have Qd : w16.cell? ⟨jY, 2, none⟩ = some (.slice cO aY.length cu) := (aj iC.out 2).trans rfl; have Xm : w16.cell? ⟨jY, 3, none⟩ = some (.int .i64 dw) := (aj iC.out 3).trans rfl; have Xl : w16.cell? ⟨jY, 4, none⟩ = some (.int .i64 dB) := (aj iC.out 4).trans rfl; have Xk : w16.cell? ⟨jY, 5, none⟩ = some (.slice gp bV.length fZ) := (aj iC.out 5).trans rfl; have Ji := aA iC.out 0; have PT := aA iC.out 1; have PS := aA iC.out 2; have Wq := aA iC.out 3; have Wp := aA iC.out 4; have Wn := aA iC.out 5; have Qc : w16.cell? ⟨kW, 0, none⟩ = some (.int .i64 dS) := (aj iY.out 0).trans rfl; have Qb : w16.cell? ⟨kW, 1, none⟩ = some (.int .i64 dZ) := (aj iY.out 1).trans rfl; have Qa : w16.cell? ⟨kW, 2, none⟩ = some (.slice gY dI.length g_) := (aj iY.out 2).trans rfl; have Xj : w16.cell? ⟨kW, 3, none⟩ = some (.int .i64 mO) := (aj iY.out 3).trans rfl; have Xi : w16.cell? ⟨kW, 4, none⟩ = some (.int .i64 mM) := (aj iY.out 4).trans rfl; have Xh : w16.cell? ⟨kW, 5, none⟩ = some (.slice qO kJ.length qP) := (aj iY.out 5).trans rfl; have PO := aA iY.out 0; have PN := aA iY.out 1; have PM := aA iY.out 2; have Wl := aA iY.out 3; have Wj := aA iY.out 4; have Wi := aA iY.out 5) | ((with_reducible refine aV (f := 40) rfl ?_); refine cZ (some 9) rfl rfl Try.func40 (by kernel_rfl) rfl #[.agg #[.int .i64 aQ, .int .i64 a_, .slice cO aY.length cu], .agg #[.int .i64 dS, .int .i64 dZ, .slice gY dI.length g_]] rfl (by (try simp only [List.map_toArray, List.map_cons, List.map_nil]); first | done | rfl | (simp only [List.length_drop, List.length_take]; rfl)) ?_; (with_reducible refine (gX.calls k aQ a_ _ _ aY dS dZ _ _ dI false _ ?eY ?eX ?lZ ?nU A3.out).mono ?_); (case eY => repeat (first | exact (Kd.fB kC.out HB.out) | (with_reducible refine Kd.fE ?_ _) | (with_reducible refine Kd.fD ?_ _) | (with_reducible refine Kd.gm ?_))); (case eX => exact lM.out); (case lZ => repeat (first | exact (Kd.fB tV.out HB.out) | (with_reducible refine Kd.fE ?_ _) | (with_reducible refine Kd.fD ?_ _) | (with_reducible refine Kd.gm ?_))); (case nU => exact vW.out); rintro e w20 ⟨rfl, hb⟩; refine ⟨_, rfl, ?_⟩; have bT := ah.mk (bg (g := jY) (o := .cells #[.int .i64 aQ, .int .i64 a_, .slice cO aY.length cu, .int .i64 dw, .int .i64 dB, .slice gp bV.length fZ] 28 (0, 0)) (by (with_reducible repeat (first | refine ay ?_ _ | refine aC ?_ | refine az ?_ _)); exact iC.out) hb); have dD := ah.mk (bg (g := kW) (o := .cells #[.int .i64 dS, .int .i64 dZ, .slice gY dI.length g_, .int .i64 mO, .int .i64 mM, .slice qO kJ.length qP] 28 (0, 0)) (by (with_reducible repeat (first | refine ay ?_ _ | refine aC ?_ | refine az ?_ _)); exact iY.out) hb); have dQ := ah.mk (aI (by repeat (first | (with_reducible first | exact HB.out | apply au | apply af | apply ak | refine aG ?_ xO.out | refine aG ?_ Iz.out) | exact HB.out)) hb); clear iC; clear iY; clear HB; have iC := bT; have iY := dD; have HB := dQ; clear bT dD dQ; (try clear hb); (try clear hb2); (try clear hk); (try clear hi)))
   go_ret
   exact ⟨by first | rfl | (simp [aU, aT] <;> rfl) | (simp [*, aU, aT] <;> rfl), by repeat (first | (with_reducible first | exact HB.out | apply au | apply af | apply ak | refine aG ?_ xO.out | refine aG ?_ Iz.out) | exact HB.out)⟩
end Go.Proofs.Ytninmcmajbfccaa.PQ

