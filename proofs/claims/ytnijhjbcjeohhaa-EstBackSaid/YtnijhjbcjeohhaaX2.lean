import Derived.Test.YtnijhjbcjeohhaaProg
import Derived.Below
import Derived.Deep.Draws
import Derived.Deep.AppendLies
import Derived.Maps.AppendAt
import Derived.OwnWalk
import Derived.Laws.BytesArg
import Derived.Laws.MakeOwn
import Derived.Laws.OwnMore
import Derived.Deep.OwnRows
import Derived.Tactics
import Derived.Lib.ConvBytes
import Derived.Laws.Slices
import Derived.WalkKit
import Derived.KernelRfl
import Derived.RowKit3
import Derived.Deep.LoopGhost
import Derived.Deep.QuietTactic
import Derived.BigQuiet
import Derived.WideLaws
import Derived.Deep.DeepCutAuto
import Derived.Deep.CutBlock
import Derived.Deep.RegionHeld3
import Derived.Laws.Rows
import Derived.Lib.AppendStr
import Derived.ArgAppend
import Derived.Laws.IdiomCopy
import Derived.OrdersHeld
import Derived.Laws.BitsLemmas
import Derived.RowKit
import Derived.Test.YtnijhjbcjeohhaaX0
import Derived.Test.YtnijhjbcjeohhaaX1
/- Joined and thinned by a program of this session's own (wip/pack2.py) out of its texts (wip/ of its repo); parts were laid by its own program (wip/print-patch.py over the kit's print) out of the translation; Lean checks all. -/
set_option maxRecDepth 100000
set_option maxHeartbeats 8000000
namespace Go.Proofs.Ytnijhjbcjeohhaa.PQ
open Go.RowKit Go.Proofs.af.aF Go.Proofs.af.aP Go.Proofs.af.aQ
attribute [local go_sem] fU fP iJ iI eG eF fQ fO
set_option linter.unusedVariables false
set_option linter.unusedSimpArgs false
def H_ : Option Int → Value
 | none => .nilIface
 | some c => .iface 0 (.int .i64 c)
theorem aN : H_ none = .nilIface := rfl
theorem aK (c : Int) : H_ (some c) = .iface 0 (.int .i64 c) := rfl
end Go.Proofs.Ytnijhjbcjeohhaa.PQ

namespace Go.Proofs.Ytnijhjbcjeohhaa.PQ
open Go.RowKit Go.Proofs.af.aF Go.Proofs.af.aP Go.Proofs.af.aQ
attribute [local go_sem] fU fP iJ iI eG eF fQ fO
set_option linter.unusedVariables false
set_option linter.unusedSimpArgs false
theorem Ic (d : Nat) (w : World) (x0 y0 : Int) (x1 y1 : Int) :
 (Op.equalIn (d + 2) 134 (.agg #[.int .i64 x0, .int .i64 x1]) (.agg #[.int .i64 y0, .int .i64 y1])).run Try.prog w = .ok (x0 == y0 && (x1 == y1)) w := by
 refine NH Try.underlying134 (by kernel_rfl) ?_
 refine Ib (by rfl) (by go_simp; rfl) (by go_simp; rfl) (by go_simp) ?_
 exact Ia (by rfl) (by go_simp; rfl) (by go_simp; rfl) (by go_simp)
end Go.Proofs.Ytnijhjbcjeohhaa.PQ

namespace Go.Proofs.Ytnijhjbcjeohhaa.PQ
open Go.RowKit Go.Proofs.af.aF Go.Proofs.af.aP Go.Proofs.af.aQ
attribute [local go_sem] fU fP iJ iI eG eF fQ fO
set_option linter.unusedVariables false
set_option linter.unusedSimpArgs false
def bQ.f (a0 : Int) : Option (Int × Bool) := some (mn (mx a0 (-70368744177664)) 70368744177663, ((mn (mx a0 (-70368744177664)) 70368744177663) != a0))
theorem bQ.calls (a0 : Int) (r1 : Int) (r2 : Bool) (w : World) (h : bQ.f a0 = some (r1, r2)) :
 Calls Try.prog 86 #[.int .i64 a0] w fun e w' => e = .returned (.tuple #[.int .i64 r1, .bool r2]) ∧ Below w.heap.size w w' := by
 have HB := aj.mk (Below.refl w.heap.size w)
 have H : (some (mn (mx a0 (-70368744177664)) 70368744177663, ((mn (mx a0 (-70368744177664)) 70368744177663) != a0))) = some (r1, r2) := h
 clear h
 obtain ⟨Pq, JC⟩ : ∃ j_ : Int, (mx a0 (-70368744177664)) = j_ := ⟨_, rfl⟩
 replace H : (some (mn (Pq) 70368744177663, ((mn (Pq) 70368744177663) != a0))) = some (r1, r2) := by first | (rw [JC] at H; exact H) | (simp only [JC] at H ⊢; exact H)
 have ZV : (if a0 < (-70368744177664) then (-70368744177664) else a0) = Pq := JC
 obtain ⟨wS, qW⟩ : ∃ j_ : Int, (mn (Pq) 70368744177663) = j_ := ⟨_, rfl⟩
 replace H : (some (wS, ((wS) != a0))) = some (r1, r2) := by first | (rw [qW] at H; exact H) | (simp only [qW] at H ⊢; exact H)
 have Qw : (if 70368744177663 < (Pq) then 70368744177663 else (Pq)) = wS := qW
 simp only [Option.some.injEq, Prod.mk.injEq] at H
 obtain ⟨rfl, rfl⟩ := H
 go_enter Try.func86, Try.ntmps86
 go_wp2
 go_ret2
 exact ⟨by first | rfl | (simp [aN, aK] <;> rfl) | (simp only [← JC, ← qW]; first | rfl | (simp [aN, aK] <;> rfl)) | (simp [*, aN, aK] <;> rfl), by repeat (first | (with_reducible first | exact HB.out | apply ak | apply ah | apply au) | exact HB.out)⟩
def a_.f (a0 : Int) (a1 : Int) : Option (Int × Int × Bool) := (bQ.f a0).bind fun wE => ((bQ.f a1).bind fun oW => (if wE.2 = true then (some (wE.1, oW.1, true)) else (some (wE.1, oW.1, oW.2))))
theorem a_.calls (a0 : Int) (a1 : Int) (r1 : Int) (r2 : Int) (r3 : Bool) (w : World) (h : a_.f a0 a1 = some (r1, r2, r3)) :
 Calls Try.prog 95 #[.int .i64 a0, .int .i64 a1] w fun e w' => e = .returned (.tuple #[.int .i64 r1, .int .i64 r2, .bool r3]) ∧ Below w.heap.size w w' := by
 have HB := aj.mk (Below.refl w.heap.size w)
 have H : ((bQ.f a0).bind fun wE => ((bQ.f a1).bind fun oW => (if wE.2 = true then (some (wE.1, oW.1, true)) else (some (wE.1, oW.1, oW.2))))) = some (r1, r2, r3) := h
 clear h
 replace H := Option.bind_eq_some_iff.mp H
 obtain ⟨⟨t101, t102⟩, xU, H⟩ := H
 replace H : ((bQ.f a1).bind fun oW => (if t102 = true then (some (t101, oW.1, true)) else (some (t101, oW.1, oW.2)))) = some (r1, r2, r3) := H
 have A3 := aj.mk xU
 clear xU
 replace H := Option.bind_eq_some_iff.mp H
 obtain ⟨⟨t103, t104⟩, Ba, H⟩ := H
 replace H : (if t102 = true then (some (t101, t103, true)) else (some (t101, t103, t104))) = some (r1, r2, r3) := H
 have A4 := aj.mk Ba
 clear Ba
 by_cases c5 : t102 = true
 · subst c5
   rw [if_pos rfl] at H
   simp only [Option.some.injEq, Prod.mk.injEq] at H
   obtain ⟨rfl, rfl, rfl⟩ := H
   go_enter Try.func95, Try.ntmps95
   go_wp2_with (first | ((with_reducible refine az (f := 86) rfl ?_); refine aT (some 11) rfl rfl Try.func86 (by kernel_rfl) rfl #[.int .i64 a0] rfl (by (try simp only [List.map_toArray, List.map_cons, List.map_nil]); first | done | rfl | (simp only [List.length_drop, List.length_take]; rfl)) ?_; (with_reducible refine (bQ.calls a0 t101 true _ A3.out).mono ?_); rintro e w6 ⟨rfl, hb⟩; refine ⟨_, rfl, ?_⟩; have bu := aj.mk (aO (by repeat (first | (with_reducible first | exact HB.out | apply ak | apply ah | apply au) | exact HB.out)) hb); clear HB; have HB := bu; clear bu; (try clear hb); (try clear hb2); (try clear hk); (try clear hi)) | ((with_reducible refine az (f := 86) rfl ?_); refine aT (some 16) rfl rfl Try.func86 (by kernel_rfl) rfl #[.int .i64 a1] rfl (by (try simp only [List.map_toArray, List.map_cons, List.map_nil]); first | done | rfl | (simp only [List.length_drop, List.length_take]; rfl)) ?_; (with_reducible refine (bQ.calls a1 t103 t104 _ A4.out).mono ?_); rintro e w7 ⟨rfl, hb⟩; refine ⟨_, rfl, ?_⟩; have bu := aj.mk (aO (by repeat (first | (with_reducible first | exact HB.out | apply ak | apply ah | apply au) | exact HB.out)) hb); clear HB; have HB := bu; clear bu; (try clear hb); (try clear hb2); (try clear hk); (try clear hi)))
   go_ret3
   exact ⟨by first | rfl | (simp [aN, aK] <;> rfl) | (simp [*, aN, aK] <;> rfl), by repeat (first | (with_reducible first | exact HB.out | apply ak | apply ah | apply au) | exact HB.out)⟩
 · replace c5 := Bool.eq_false_iff.mpr c5
   subst c5
   have H1 : (some (t101, t103, t104)) = some (r1, r2, r3) := by rw [if_neg (show ¬ (false = true) by decide)] at H; exact H
   clear H
   have H := H1
   clear H1
   simp only [Option.some.injEq, Prod.mk.injEq] at H
   obtain ⟨rfl, rfl, rfl⟩ := H
   go_enter Try.func95, Try.ntmps95
   go_wp2_with (first | ((with_reducible refine az (f := 86) rfl ?_); refine aT (some 11) rfl rfl Try.func86 (by kernel_rfl) rfl #[.int .i64 a0] rfl (by (try simp only [List.map_toArray, List.map_cons, List.map_nil]); first | done | rfl | (simp only [List.length_drop, List.length_take]; rfl)) ?_; (with_reducible refine (bQ.calls a0 t101 false _ A3.out).mono ?_); rintro e w8 ⟨rfl, hb⟩; refine ⟨_, rfl, ?_⟩; have bu := aj.mk (aO (by repeat (first | (with_reducible first | exact HB.out | apply ak | apply ah | apply au) | exact HB.out)) hb); clear HB; have HB := bu; clear bu; (try clear hb); (try clear hb2); (try clear hk); (try clear hi)) | ((with_reducible refine az (f := 86) rfl ?_); refine aT (some 16) rfl rfl Try.func86 (by kernel_rfl) rfl #[.int .i64 a1] rfl (by (try simp only [List.map_toArray, List.map_cons, List.map_nil]); first | done | rfl | (simp only [List.length_drop, List.length_take]; rfl)) ?_; (with_reducible refine (bQ.calls a1 t103 t104 _ A4.out).mono ?_); rintro e w9 ⟨rfl, hb⟩; refine ⟨_, rfl, ?_⟩; have bu := aj.mk (aO (by repeat (first | (with_reducible first | exact HB.out | apply ak | apply ah | apply au) | exact HB.out)) hb); clear HB; have HB := bu; clear bu; (try clear hb); (try clear hb2); (try clear hk); (try clear hi)))
   go_ret3
   exact ⟨by first | rfl | (simp [aN, aK] <;> rfl) | (simp [*, aN, aK] <;> rfl), by repeat (first | (with_reducible first | exact HB.out | apply ak | apply ah | apply au) | exact HB.out)⟩
def bits_Mul64.f (a0 : Int) (a1 : Int) : Option (Int × Int) := if 0 ≤ a0 ∧ a0 < 18446744073709551616 ∧ 0 ≤ a1 ∧ a1 < 18446744073709551616 then some (a0 * a1 / 18446744073709551616, a0 * a1 % 18446744073709551616) else none
theorem bits_Mul64.calls (a0 : Int) (a1 : Int) (r1 : Int) (r2 : Int) (w : World) (h : bits_Mul64.f a0 a1 = some (r1, r2)) :
 Calls Try.prog 96 #[.int .u64 a0, .int .u64 a1] w fun e w' => e = .returned (.tuple #[.int .u64 r1, .int .u64 r2]) ∧ bf w w' := by
 unfold bits_Mul64.f at h
 by_cases hb : 0 ≤ a0 ∧ a0 < 18446744073709551616 ∧ 0 ≤ a1 ∧ a1 < 18446744073709551616
 · rw [if_pos hb] at h
   simp only [Option.some.injEq, Prod.mk.injEq] at h
   obtain ⟨rfl, rfl⟩ := h
   obtain ⟨x, rfl⟩ := Int.eq_ofNat_of_zero_le hb.1
   obtain ⟨y, rfl⟩ := Int.eq_ofNat_of_zero_le hb.2.2.1
   refine (Try.bits_Mul64 x y (by omega) (by omega) w).mono ?_
   rintro e w' ⟨rfl, rfl⟩
   exact ⟨by simp, bf.refl _⟩
 · rw [if_neg hb] at h
   cases h
def aU.f (a0 : Int) : Option (Int) := if a0 < 0 then (some (IntKind.u64.wrap (wrap64 (-a0)))) else (some (IntKind.u64.wrap (a0)))
theorem aU.calls (a0 : Int) (r : Int) (w : World) (h : aU.f a0 = some r) :
 Calls Try.prog 97 #[.int .i64 a0] w fun e w' => e = .returned (.int .u64 r) ∧ bf w w' := by
 have H : (if a0 < 0 then (some (IntKind.u64.wrap (wrap64 (-a0)))) else (some (IntKind.u64.wrap (a0)))) = some r := h
 clear h
 by_cases c2 : a0 < 0
 · rw [if_pos c2] at H
   have Yf : decide (a0 < 0) = true := decide_eq_true c2
   clear c2
   obtain rfl := Option.some.inj H
   go_enter Try.func97, Try.ntmps97
   go_wp2
   go_ret
   exact ⟨by first | rfl | (simp; done) | (simp [*]; done), by repeat (first | exact bf.refl _ | apply bf.step)⟩
 · rw [if_neg c2] at H
   have Yf : decide (a0 < 0) = false := decide_eq_false c2
   clear c2
   obtain rfl := Option.some.inj H
   go_enter Try.func97, Try.ntmps97
   go_wp2
   go_ret
   exact ⟨by first | rfl | (simp; done) | (simp [*]; done), by repeat (first | exact bf.refl _ | apply bf.step)⟩
def nT (a0 : Int) : Int := mn (mx a0 (-70368744177664)) 70368744177663
def sO (a0 : Int) : Bool := (mn (mx a0 (-70368744177664)) 70368744177663) != a0
theorem xC (a0 : Int) (w : World) :
 Calls Try.prog 86 #[.int .i64 a0] w fun e w' => e = .returned (.tuple #[.int .i64 (nT a0), .bool (sO a0)]) ∧ Below w.heap.size w w' :=
 bQ.calls a0 _ _ w rfl
def mG (b : Bool) (a0 : Int) : Int := if b = true then wrap64 (-a0) else a0
theorem nO (a0 : Int) (b : Bool) (A : Addr) (w : World) (hc : w.cell? A = some (.bool b)) :
 Calls Try.prog 113 #[.int .i64 a0, .pointer (some A)] w fun e w' => e = .returned (.int .i64 (mG b a0)) ∧ w' = w := by
 cases b
 · go_enter Try.func113, Try.ntmps113
   go_wp2
   go_ret
   exact ⟨by simp [mG], rfl⟩
 · go_enter Try.func113, Try.ntmps113
   go_wp2
   go_ret
   exact ⟨by simp [mG], rfl⟩
theorem uY (a0 a1 : Int) (b : Bool) (w : World) (hd : ((a0 != 0) = true) ∨ ((a0 != 0) = false ∧ decide (a1 > 70368744177664) = true)) :
 Calls Try.prog 98 #[.int .u64 a0, .int .u64 a1, .bool b] w fun e w' => e = .returned (.tuple #[.int .i64 (nT (mG b 70368744177664)), .bool true]) ∧ Below w.heap.size w w' := by
 rcases hd with hd | ⟨hd, hd2⟩
 all_goals
  go_enter Try.func98, Try.ntmps98
  go_wp2_with (first | (go_at_call 113; refine (nO _ b _ _ (by simp)).mono ?_; rintro e w' ⟨rfl, rfl⟩) | (go_at_call 86; refine (xC _ _).mono ?_; rintro e w' ⟨rfl, hb⟩))
  go_ret2
  exact ⟨rfl, ((Below.refl _ _).alloc (Nat.le_refl _) _).trans (hb.mono (by simp))⟩
theorem yX (a0 a1 : Int) (b : Bool) (w : World) (hd : (a0 != 0) = false) (hd2 : decide (a1 > 70368744177664) = false) :
 Calls Try.prog 98 #[.int .u64 a0, .int .u64 a1, .bool b] w fun e w' => e = .returned (.tuple #[.int .i64 (nT (mG b (wrap64 a1))), .bool (sO (mG b (wrap64 a1)))]) ∧ Below w.heap.size w w' := by
 go_enter Try.func98, Try.ntmps98
 go_wp2_with (first | (go_at_call 113; refine (nO _ b _ _ (by simp)).mono ?_; rintro e w' ⟨rfl, rfl⟩) | (go_at_call 86; refine (xC _ _).mono ?_; rintro e w' ⟨rfl, hb⟩))
 go_ret2
 exact ⟨rfl, ((Below.refl _ _).alloc (Nat.le_refl _) _).trans (hb.mono (by simp))⟩
def aJ.f (a0 : Int) (a1 : Int) (a2 : Bool) : Option (Int × Bool) :=
 if a0 = 0 then (if a1 > 70368744177664 then some (nT (mG a2 70368744177664), true) else some (nT (mG a2 (wrap64 a1)), sO (mG a2 (wrap64 a1)))) else some (nT (mG a2 70368744177664), true)
theorem aJ.calls (a0 : Int) (a1 : Int) (a2 : Bool) (r1 : Int) (r2 : Bool) (w : World) (h : aJ.f a0 a1 a2 = some (r1, r2)) :
 Calls Try.prog 98 #[.int .u64 a0, .int .u64 a1, .bool a2] w fun e w' => e = .returned (.tuple #[.int .i64 r1, .bool r2]) ∧ Below w.heap.size w w' := by
 unfold aJ.f at h
 by_cases h0 : a0 = 0
 · rw [if_pos h0] at h
   by_cases h1 : a1 > 70368744177664
   · rw [if_pos h1] at h
     simp only [Option.some.injEq, Prod.mk.injEq] at h
     obtain ⟨rfl, rfl⟩ := h
     exact uY a0 a1 a2 w (.inr ⟨by simp [h0], by simpa using h1⟩)
   · rw [if_neg h1] at h
     simp only [Option.some.injEq, Prod.mk.injEq] at h
     obtain ⟨rfl, rfl⟩ := h
     exact yX a0 a1 a2 w (by simp [h0]) (by simpa using h1)
 · rw [if_neg h0] at h
   simp only [Option.some.injEq, Prod.mk.injEq] at h
   obtain ⟨rfl, rfl⟩ := h
   exact uY a0 a1 a2 w (.inl (by simp [h0]))
def oH.f (a0 : Int) (a1 : Int) : Option (Int × Bool) := (a_.f a0 a1).bind fun f_ => ((aU.f f_.1).bind fun t108 => ((aU.f f_.2.1).bind fun t109 => ((bits_Mul64.f t108 t109).bind fun bg => (if (Go.bits .and .u64 bg.2 16777215) > 8388608 then ((aJ.f (bg.1 / 16777216) (IntKind.u64.wrap ((Go.bits .or .u64 (bg.2 / 16777216) (IntKind.u64.wrap (bg.1 * 1099511627776))) + 1)) ((decide (f_.1 < 0)) != (decide (f_.2.1 < 0)))).bind fun je => (if f_.2.2 = true then (some (je.1, true)) else (some (je.1, je.2)))) else (if (Go.bits .and .u64 bg.2 16777215) = 8388608 then (if (Go.bits .and .u64 (Go.bits .or .u64 (bg.2 / 16777216) (IntKind.u64.wrap (bg.1 * 1099511627776))) 1) = 1 then ((aJ.f (bg.1 / 16777216) (IntKind.u64.wrap ((Go.bits .or .u64 (bg.2 / 16777216) (IntKind.u64.wrap (bg.1 * 1099511627776))) + 1)) ((decide (f_.1 < 0)) != (decide (f_.2.1 < 0)))).bind fun jd => (if f_.2.2 = true then (some (jd.1, true)) else (some (jd.1, jd.2)))) else ((aJ.f (bg.1 / 16777216) (Go.bits .or .u64 (bg.2 / 16777216) (IntKind.u64.wrap (bg.1 * 1099511627776))) ((decide (f_.1 < 0)) != (decide (f_.2.1 < 0)))).bind fun jc => (if f_.2.2 = true then (some (jc.1, true)) else (some (jc.1, jc.2))))) else ((aJ.f (bg.1 / 16777216) (Go.bits .or .u64 (bg.2 / 16777216) (IntKind.u64.wrap (bg.1 * 1099511627776))) ((decide (f_.1 < 0)) != (decide (f_.2.1 < 0)))).bind fun iZ => (if f_.2.2 = true then (some (iZ.1, true)) else (some (iZ.1, iZ.2)))))))))
theorem oH.calls (a0 : Int) (a1 : Int) (r1 : Int) (r2 : Bool) (w : World) (h : oH.f a0 a1 = some (r1, r2)) :
 Calls Try.prog 67 #[.int .i64 a0, .int .i64 a1] w fun e w' => e = .returned (.tuple #[.int .i64 r1, .bool r2]) ∧ Below w.heap.size w w' := by
 have HB := aj.mk (Below.refl w.heap.size w)
 have H : ((a_.f a0 a1).bind fun f_ => ((aU.f f_.1).bind fun t108 => ((aU.f f_.2.1).bind fun t109 => ((bits_Mul64.f t108 t109).bind fun bg => (if (Go.bits .and .u64 bg.2 16777215) > 8388608 then ((aJ.f (bg.1 / 16777216) (IntKind.u64.wrap ((Go.bits .or .u64 (bg.2 / 16777216) (IntKind.u64.wrap (bg.1 * 1099511627776))) + 1)) ((decide (f_.1 < 0)) != (decide (f_.2.1 < 0)))).bind fun je => (if f_.2.2 = true then (some (je.1, true)) else (some (je.1, je.2)))) else (if (Go.bits .and .u64 bg.2 16777215) = 8388608 then (if (Go.bits .and .u64 (Go.bits .or .u64 (bg.2 / 16777216) (IntKind.u64.wrap (bg.1 * 1099511627776))) 1) = 1 then ((aJ.f (bg.1 / 16777216) (IntKind.u64.wrap ((Go.bits .or .u64 (bg.2 / 16777216) (IntKind.u64.wrap (bg.1 * 1099511627776))) + 1)) ((decide (f_.1 < 0)) != (decide (f_.2.1 < 0)))).bind fun jd => (if f_.2.2 = true then (some (jd.1, true)) else (some (jd.1, jd.2)))) else ((aJ.f (bg.1 / 16777216) (Go.bits .or .u64 (bg.2 / 16777216) (IntKind.u64.wrap (bg.1 * 1099511627776))) ((decide (f_.1 < 0)) != (decide (f_.2.1 < 0)))).bind fun jc => (if f_.2.2 = true then (some (jc.1, true)) else (some (jc.1, jc.2))))) else ((aJ.f (bg.1 / 16777216) (Go.bits .or .u64 (bg.2 / 16777216) (IntKind.u64.wrap (bg.1 * 1099511627776))) ((decide (f_.1 < 0)) != (decide (f_.2.1 < 0)))).bind fun iZ => (if f_.2.2 = true then (some (iZ.1, true)) else (some (iZ.1, iZ.2)))))))))) = some (r1, r2) := h
 clear h
 replace H := Option.bind_eq_some_iff.mp H
 obtain ⟨⟨t105, t106, t107⟩, xU, H⟩ := H
 replace H : ((aU.f t105).bind fun t108 => ((aU.f t106).bind fun t109 => ((bits_Mul64.f t108 t109).bind fun bg => (if (Go.bits .and .u64 bg.2 16777215) > 8388608 then ((aJ.f (bg.1 / 16777216) (IntKind.u64.wrap ((Go.bits .or .u64 (bg.2 / 16777216) (IntKind.u64.wrap (bg.1 * 1099511627776))) + 1)) ((decide (t105 < 0)) != (decide (t106 < 0)))).bind fun je => (if t107 = true then (some (je.1, true)) else (some (je.1, je.2)))) else (if (Go.bits .and .u64 bg.2 16777215) = 8388608 then (if (Go.bits .and .u64 (Go.bits .or .u64 (bg.2 / 16777216) (IntKind.u64.wrap (bg.1 * 1099511627776))) 1) = 1 then ((aJ.f (bg.1 / 16777216) (IntKind.u64.wrap ((Go.bits .or .u64 (bg.2 / 16777216) (IntKind.u64.wrap (bg.1 * 1099511627776))) + 1)) ((decide (t105 < 0)) != (decide (t106 < 0)))).bind fun jd => (if t107 = true then (some (jd.1, true)) else (some (jd.1, jd.2)))) else ((aJ.f (bg.1 / 16777216) (Go.bits .or .u64 (bg.2 / 16777216) (IntKind.u64.wrap (bg.1 * 1099511627776))) ((decide (t105 < 0)) != (decide (t106 < 0)))).bind fun jc => (if t107 = true then (some (jc.1, true)) else (some (jc.1, jc.2))))) else ((aJ.f (bg.1 / 16777216) (Go.bits .or .u64 (bg.2 / 16777216) (IntKind.u64.wrap (bg.1 * 1099511627776))) ((decide (t105 < 0)) != (decide (t106 < 0)))).bind fun iZ => (if t107 = true then (some (iZ.1, true)) else (some (iZ.1, iZ.2))))))))) = some (r1, r2) := H
 have A3 := aj.mk xU
 clear xU
 replace H := Option.bind_eq_some_iff.mp H
 obtain ⟨t108, Ba, H⟩ := H
 replace H : ((aU.f t106).bind fun t109 => ((bits_Mul64.f t108 t109).bind fun bg => (if (Go.bits .and .u64 bg.2 16777215) > 8388608 then ((aJ.f (bg.1 / 16777216) (IntKind.u64.wrap ((Go.bits .or .u64 (bg.2 / 16777216) (IntKind.u64.wrap (bg.1 * 1099511627776))) + 1)) ((decide (t105 < 0)) != (decide (t106 < 0)))).bind fun je => (if t107 = true then (some (je.1, true)) else (some (je.1, je.2)))) else (if (Go.bits .and .u64 bg.2 16777215) = 8388608 then (if (Go.bits .and .u64 (Go.bits .or .u64 (bg.2 / 16777216) (IntKind.u64.wrap (bg.1 * 1099511627776))) 1) = 1 then ((aJ.f (bg.1 / 16777216) (IntKind.u64.wrap ((Go.bits .or .u64 (bg.2 / 16777216) (IntKind.u64.wrap (bg.1 * 1099511627776))) + 1)) ((decide (t105 < 0)) != (decide (t106 < 0)))).bind fun jd => (if t107 = true then (some (jd.1, true)) else (some (jd.1, jd.2)))) else ((aJ.f (bg.1 / 16777216) (Go.bits .or .u64 (bg.2 / 16777216) (IntKind.u64.wrap (bg.1 * 1099511627776))) ((decide (t105 < 0)) != (decide (t106 < 0)))).bind fun jc => (if t107 = true then (some (jc.1, true)) else (some (jc.1, jc.2))))) else ((aJ.f (bg.1 / 16777216) (Go.bits .or .u64 (bg.2 / 16777216) (IntKind.u64.wrap (bg.1 * 1099511627776))) ((decide (t105 < 0)) != (decide (t106 < 0)))).bind fun iZ => (if t107 = true then (some (iZ.1, true)) else (some (iZ.1, iZ.2)))))))) = some (r1, r2) := H
 have A4 := aj.mk Ba
 clear Ba
 replace H := Option.bind_eq_some_iff.mp H
 obtain ⟨t109, Um, H⟩ := H
 replace H : ((bits_Mul64.f t108 t109).bind fun bg => (if (Go.bits .and .u64 bg.2 16777215) > 8388608 then ((aJ.f (bg.1 / 16777216) (IntKind.u64.wrap ((Go.bits .or .u64 (bg.2 / 16777216) (IntKind.u64.wrap (bg.1 * 1099511627776))) + 1)) ((decide (t105 < 0)) != (decide (t106 < 0)))).bind fun je => (if t107 = true then (some (je.1, true)) else (some (je.1, je.2)))) else (if (Go.bits .and .u64 bg.2 16777215) = 8388608 then (if (Go.bits .and .u64 (Go.bits .or .u64 (bg.2 / 16777216) (IntKind.u64.wrap (bg.1 * 1099511627776))) 1) = 1 then ((aJ.f (bg.1 / 16777216) (IntKind.u64.wrap ((Go.bits .or .u64 (bg.2 / 16777216) (IntKind.u64.wrap (bg.1 * 1099511627776))) + 1)) ((decide (t105 < 0)) != (decide (t106 < 0)))).bind fun jd => (if t107 = true then (some (jd.1, true)) else (some (jd.1, jd.2)))) else ((aJ.f (bg.1 / 16777216) (Go.bits .or .u64 (bg.2 / 16777216) (IntKind.u64.wrap (bg.1 * 1099511627776))) ((decide (t105 < 0)) != (decide (t106 < 0)))).bind fun jc => (if t107 = true then (some (jc.1, true)) else (some (jc.1, jc.2))))) else ((aJ.f (bg.1 / 16777216) (Go.bits .or .u64 (bg.2 / 16777216) (IntKind.u64.wrap (bg.1 * 1099511627776))) ((decide (t105 < 0)) != (decide (t106 < 0)))).bind fun iZ => (if t107 = true then (some (iZ.1, true)) else (some (iZ.1, iZ.2))))))) = some (r1, r2) := H
 have A5 := aj.mk Um
 clear Um
 replace H := Option.bind_eq_some_iff.mp H
 obtain ⟨⟨t110, t111⟩, L_, H⟩ := H
 replace H : (if (Go.bits .and .u64 t111 16777215) > 8388608 then ((aJ.f (t110 / 16777216) (IntKind.u64.wrap ((Go.bits .or .u64 (t111 / 16777216) (IntKind.u64.wrap (t110 * 1099511627776))) + 1)) ((decide (t105 < 0)) != (decide (t106 < 0)))).bind fun je => (if t107 = true then (some (je.1, true)) else (some (je.1, je.2)))) else (if (Go.bits .and .u64 t111 16777215) = 8388608 then (if (Go.bits .and .u64 (Go.bits .or .u64 (t111 / 16777216) (IntKind.u64.wrap (t110 * 1099511627776))) 1) = 1 then ((aJ.f (t110 / 16777216) (IntKind.u64.wrap ((Go.bits .or .u64 (t111 / 16777216) (IntKind.u64.wrap (t110 * 1099511627776))) + 1)) ((decide (t105 < 0)) != (decide (t106 < 0)))).bind fun jd => (if t107 = true then (some (jd.1, true)) else (some (jd.1, jd.2)))) else ((aJ.f (t110 / 16777216) (Go.bits .or .u64 (t111 / 16777216) (IntKind.u64.wrap (t110 * 1099511627776))) ((decide (t105 < 0)) != (decide (t106 < 0)))).bind fun jc => (if t107 = true then (some (jc.1, true)) else (some (jc.1, jc.2))))) else ((aJ.f (t110 / 16777216) (Go.bits .or .u64 (t111 / 16777216) (IntKind.u64.wrap (t110 * 1099511627776))) ((decide (t105 < 0)) != (decide (t106 < 0)))).bind fun iZ => (if t107 = true then (some (iZ.1, true)) else (some (iZ.1, iZ.2)))))) = some (r1, r2) := H
 have A6 := aj.mk L_
 clear L_
 by_cases c7 : (Go.bits .and .u64 t111 16777215) > 8388608
 · rw [if_pos c7] at H
   have uD : decide (8388608 < (Go.bits .and .u64 t111 16777215)) = true := decide_eq_true c7
   clear c7
   replace H := Option.bind_eq_some_iff.mp H
   obtain ⟨⟨t112, t113⟩, Uk, H⟩ := H
   replace H : (if t107 = true then (some (t112, true)) else (some (t112, t113))) = some (r1, r2) := H
   have A8 := aj.mk Uk
   clear Uk
   by_cases c9 : t107 = true
   · subst c9
     rw [if_pos rfl] at H
     simp only [Option.some.injEq, Prod.mk.injEq] at H
     obtain ⟨rfl, rfl⟩ := H
     go_enter Try.func67, Try.ntmps67
     go_wp2_with (first | ((with_reducible refine az (f := 95) rfl ?_); refine aT (some 15) rfl rfl Try.func95 (by kernel_rfl) rfl #[.int .i64 a0, .int .i64 a1] rfl (by (try simp only [List.map_toArray, List.map_cons, List.map_nil]); first | done | rfl | (simp only [List.length_drop, List.length_take]; rfl)) ?_; (with_reducible refine (a_.calls a0 a1 t105 t106 true _ A3.out).mono ?_); rintro e w10 ⟨rfl, hb⟩; refine ⟨_, rfl, ?_⟩; have bu := aj.mk (aO (by repeat (first | (with_reducible first | exact HB.out | apply ak | apply ah | apply au) | exact HB.out)) hb); clear HB; have HB := bu; clear bu; (try clear hb); (try clear hb2); (try clear hk); (try clear hi)) | ((with_reducible refine az (f := 97) rfl ?_); refine aT (some 21) rfl rfl Try.func97 (by kernel_rfl) rfl #[.int .i64 t105] rfl (by (try simp only [List.map_toArray, List.map_cons, List.map_nil]); first | done | rfl | (simp only [List.length_drop, List.length_take]; rfl)) ?_; (with_reducible refine (aU.calls t105 t108 _ A4.out).mono ?_); rintro e w' ⟨rfl, ⟨nd, rfl⟩⟩; refine ⟨_, rfl, ?_⟩) | ((with_reducible refine az (f := 97) rfl ?_); refine aT (some 23) rfl rfl Try.func97 (by kernel_rfl) rfl #[.int .i64 t106] rfl (by (try simp only [List.map_toArray, List.map_cons, List.map_nil]); first | done | rfl | (simp only [List.length_drop, List.length_take]; rfl)) ?_; (with_reducible refine (aU.calls t106 t109 _ A5.out).mono ?_); rintro e w' ⟨rfl, ⟨nd, rfl⟩⟩; refine ⟨_, rfl, ?_⟩) | ((with_reducible refine az (f := 96) rfl ?_); refine aT (some 24) rfl rfl Try.func96 (by kernel_rfl) rfl #[.int .u64 t108, .int .u64 t109] rfl (by (try simp only [List.map_toArray, List.map_cons, List.map_nil]); first | done | rfl | (simp only [List.length_drop, List.length_take]; rfl)) ?_; (with_reducible refine (bits_Mul64.calls t108 t109 t110 t111 _ A6.out).mono ?_); rintro e w' ⟨rfl, ⟨nd, rfl⟩⟩; refine ⟨_, rfl, ?_⟩) | ((with_reducible refine az (f := 98) rfl ?_); refine aT (some 57) rfl rfl Try.func98 (by kernel_rfl) rfl #[.int .u64 (t110 / 16777216), .int .u64 (IntKind.u64.wrap ((Go.bits .or .u64 (t111 / 16777216) (IntKind.u64.wrap (t110 * 1099511627776))) + 1)), .bool ((decide (t105 < 0)) != (decide (t106 < 0)))] rfl (by (try simp only [List.map_toArray, List.map_cons, List.map_nil]); first | done | rfl | (simp only [List.length_drop, List.length_take]; rfl)) ?_; (with_reducible refine (aJ.calls (t110 / 16777216) (IntKind.u64.wrap ((Go.bits .or .u64 (t111 / 16777216) (IntKind.u64.wrap (t110 * 1099511627776))) + 1)) ((decide (t105 < 0)) != (decide (t106 < 0))) t112 t113 _ A8.out).mono ?_); rintro e Gi ⟨rfl, hb⟩; refine ⟨_, rfl, ?_⟩; have bu := aj.mk (aO (by repeat (first | (with_reducible first | exact HB.out | apply ak | apply ah | apply au) | exact HB.out)) hb); clear HB; have HB := bu; clear bu; (try clear hb); (try clear hb2); (try clear hk); (try clear hi)))
     go_ret2
     exact ⟨by first | rfl | (simp [aN, aK] <;> rfl) | (simp [*, aN, aK] <;> rfl), by repeat (first | (with_reducible first | exact HB.out | apply ak | apply ah | apply au) | exact HB.out)⟩
   · replace c9 := Bool.eq_false_iff.mpr c9
     subst c9
     have H1 : (some (t112, t113)) = some (r1, r2) := by rw [if_neg (show ¬ (false = true) by decide)] at H; exact H
     clear H
     have H := H1
     clear H1
     simp only [Option.some.injEq, Prod.mk.injEq] at H
     obtain ⟨rfl, rfl⟩ := H
     go_enter Try.func67, Try.ntmps67
     go_wp2_with (first | ((with_reducible refine az (f := 95) rfl ?_); refine aT (some 15) rfl rfl Try.func95 (by kernel_rfl) rfl #[.int .i64 a0, .int .i64 a1] rfl (by (try simp only [List.map_toArray, List.map_cons, List.map_nil]); first | done | rfl | (simp only [List.length_drop, List.length_take]; rfl)) ?_; (with_reducible refine (a_.calls a0 a1 t105 t106 false _ A3.out).mono ?_); rintro e w12 ⟨rfl, hb⟩; refine ⟨_, rfl, ?_⟩; have bu := aj.mk (aO (by repeat (first | (with_reducible first | exact HB.out | apply ak | apply ah | apply au) | exact HB.out)) hb); clear HB; have HB := bu; clear bu; (try clear hb); (try clear hb2); (try clear hk); (try clear hi)) | ((with_reducible refine az (f := 97) rfl ?_); refine aT (some 21) rfl rfl Try.func97 (by kernel_rfl) rfl #[.int .i64 t105] rfl (by (try simp only [List.map_toArray, List.map_cons, List.map_nil]); first | done | rfl | (simp only [List.length_drop, List.length_take]; rfl)) ?_; (with_reducible refine (aU.calls t105 t108 _ A4.out).mono ?_); rintro e w' ⟨rfl, ⟨nd, rfl⟩⟩; refine ⟨_, rfl, ?_⟩) | ((with_reducible refine az (f := 97) rfl ?_); refine aT (some 23) rfl rfl Try.func97 (by kernel_rfl) rfl #[.int .i64 t106] rfl (by (try simp only [List.map_toArray, List.map_cons, List.map_nil]); first | done | rfl | (simp only [List.length_drop, List.length_take]; rfl)) ?_; (with_reducible refine (aU.calls t106 t109 _ A5.out).mono ?_); rintro e w' ⟨rfl, ⟨nd, rfl⟩⟩; refine ⟨_, rfl, ?_⟩) | ((with_reducible refine az (f := 96) rfl ?_); refine aT (some 24) rfl rfl Try.func96 (by kernel_rfl) rfl #[.int .u64 t108, .int .u64 t109] rfl (by (try simp only [List.map_toArray, List.map_cons, List.map_nil]); first | done | rfl | (simp only [List.length_drop, List.length_take]; rfl)) ?_; (with_reducible refine (bits_Mul64.calls t108 t109 t110 t111 _ A6.out).mono ?_); rintro e w' ⟨rfl, ⟨nd, rfl⟩⟩; refine ⟨_, rfl, ?_⟩) | ((with_reducible refine az (f := 98) rfl ?_); refine aT (some 57) rfl rfl Try.func98 (by kernel_rfl) rfl #[.int .u64 (t110 / 16777216), .int .u64 (IntKind.u64.wrap ((Go.bits .or .u64 (t111 / 16777216) (IntKind.u64.wrap (t110 * 1099511627776))) + 1)), .bool ((decide (t105 < 0)) != (decide (t106 < 0)))] rfl (by (try simp only [List.map_toArray, List.map_cons, List.map_nil]); first | done | rfl | (simp only [List.length_drop, List.length_take]; rfl)) ?_; (with_reducible refine (aJ.calls (t110 / 16777216) (IntKind.u64.wrap ((Go.bits .or .u64 (t111 / 16777216) (IntKind.u64.wrap (t110 * 1099511627776))) + 1)) ((decide (t105 < 0)) != (decide (t106 < 0))) t112 t113 _ A8.out).mono ?_); rintro e Gn ⟨rfl, hb⟩; refine ⟨_, rfl, ?_⟩; have bu := aj.mk (aO (by repeat (first | (with_reducible first | exact HB.out | apply ak | apply ah | apply au) | exact HB.out)) hb); clear HB; have HB := bu; clear bu; (try clear hb); (try clear hb2); (try clear hk); (try clear hi)))
     go_ret2
     exact ⟨by first | rfl | (simp [aN, aK] <;> rfl) | (simp [*, aN, aK] <;> rfl), by repeat (first | (with_reducible first | exact HB.out | apply ak | apply ah | apply au) | exact HB.out)⟩
 · rw [if_neg c7] at H
   have uD : decide (8388608 < (Go.bits .and .u64 t111 16777215)) = false := decide_eq_false c7
   clear c7
   by_cases c14 : (Go.bits .and .u64 t111 16777215) = 8388608
   · rw [if_pos c14] at H
     have rG : ((Go.bits .and .u64 t111 16777215) == 8388608) = true := beq_iff_eq.mpr c14
     have wu : ((Go.bits .and .u64 t111 16777215) != 8388608) = false := bne_eq_false_iff_eq.mpr c14
     clear c14
     by_cases c15 : (Go.bits .and .u64 (Go.bits .or .u64 (t111 / 16777216) (IntKind.u64.wrap (t110 * 1099511627776))) 1) = 1
     · rw [if_pos c15] at H
       have LG : ((Go.bits .and .u64 (Go.bits .or .u64 (t111 / 16777216) (IntKind.u64.wrap (t110 * 1099511627776))) 1) == 1) = true := beq_iff_eq.mpr c15
       have QW : ((Go.bits .and .u64 (Go.bits .or .u64 (t111 / 16777216) (IntKind.u64.wrap (t110 * 1099511627776))) 1) != 1) = false := bne_eq_false_iff_eq.mpr c15
       clear c15
       replace H := Option.bind_eq_some_iff.mp H
       obtain ⟨⟨t114, t115⟩, I4, H⟩ := H
       replace H : (if t107 = true then (some (t114, true)) else (some (t114, t115))) = some (r1, r2) := H
       have I5 := aj.mk I4
       clear I4
       by_cases c17 : t107 = true
       · subst c17
         rw [if_pos rfl] at H
         simp only [Option.some.injEq, Prod.mk.injEq] at H
         obtain ⟨rfl, rfl⟩ := H
         go_enter Try.func67, Try.ntmps67
         go_wp2_with (first | ((with_reducible refine az (f := 95) rfl ?_); refine aT (some 15) rfl rfl Try.func95 (by kernel_rfl) rfl #[.int .i64 a0, .int .i64 a1] rfl (by (try simp only [List.map_toArray, List.map_cons, List.map_nil]); first | done | rfl | (simp only [List.length_drop, List.length_take]; rfl)) ?_; (with_reducible refine (a_.calls a0 a1 t105 t106 true _ A3.out).mono ?_); rintro e w18 ⟨rfl, hb⟩; refine ⟨_, rfl, ?_⟩; have bu := aj.mk (aO (by repeat (first | (with_reducible first | exact HB.out | apply ak | apply ah | apply au) | exact HB.out)) hb); clear HB; have HB := bu; clear bu; (try clear hb); (try clear hb2); (try clear hk); (try clear hi)) | ((with_reducible refine az (f := 97) rfl ?_); refine aT (some 21) rfl rfl Try.func97 (by kernel_rfl) rfl #[.int .i64 t105] rfl (by (try simp only [List.map_toArray, List.map_cons, List.map_nil]); first | done | rfl | (simp only [List.length_drop, List.length_take]; rfl)) ?_; (with_reducible refine (aU.calls t105 t108 _ A4.out).mono ?_); rintro e w' ⟨rfl, ⟨nd, rfl⟩⟩; refine ⟨_, rfl, ?_⟩) | ((with_reducible refine az (f := 97) rfl ?_); refine aT (some 23) rfl rfl Try.func97 (by kernel_rfl) rfl #[.int .i64 t106] rfl (by (try simp only [List.map_toArray, List.map_cons, List.map_nil]); first | done | rfl | (simp only [List.length_drop, List.length_take]; rfl)) ?_; (with_reducible refine (aU.calls t106 t109 _ A5.out).mono ?_); rintro e w' ⟨rfl, ⟨nd, rfl⟩⟩; refine ⟨_, rfl, ?_⟩) | ((with_reducible refine az (f := 96) rfl ?_); refine aT (some 24) rfl rfl Try.func96 (by kernel_rfl) rfl #[.int .u64 t108, .int .u64 t109] rfl (by (try simp only [List.map_toArray, List.map_cons, List.map_nil]); first | done | rfl | (simp only [List.length_drop, List.length_take]; rfl)) ?_; (with_reducible refine (bits_Mul64.calls t108 t109 t110 t111 _ A6.out).mono ?_); rintro e w' ⟨rfl, ⟨nd, rfl⟩⟩; refine ⟨_, rfl, ?_⟩) | ((with_reducible refine az (f := 98) rfl ?_); refine aT (some 57) rfl rfl Try.func98 (by kernel_rfl) rfl #[.int .u64 (t110 / 16777216), .int .u64 (IntKind.u64.wrap ((Go.bits .or .u64 (t111 / 16777216) (IntKind.u64.wrap (t110 * 1099511627776))) + 1)), .bool ((decide (t105 < 0)) != (decide (t106 < 0)))] rfl (by (try simp only [List.map_toArray, List.map_cons, List.map_nil]); first | done | rfl | (simp only [List.length_drop, List.length_take]; rfl)) ?_; (with_reducible refine (aJ.calls (t110 / 16777216) (IntKind.u64.wrap ((Go.bits .or .u64 (t111 / 16777216) (IntKind.u64.wrap (t110 * 1099511627776))) + 1)) ((decide (t105 < 0)) != (decide (t106 < 0))) t114 t115 _ I5.out).mono ?_); rintro e Zl ⟨rfl, hb⟩; refine ⟨_, rfl, ?_⟩; have bu := aj.mk (aO (by repeat (first | (with_reducible first | exact HB.out | apply ak | apply ah | apply au) | exact HB.out)) hb); clear HB; have HB := bu; clear bu; (try clear hb); (try clear hb2); (try clear hk); (try clear hi)))
         go_ret2
         exact ⟨by first | rfl | (simp [aN, aK] <;> rfl) | (simp [*, aN, aK] <;> rfl), by repeat (first | (with_reducible first | exact HB.out | apply ak | apply ah | apply au) | exact HB.out)⟩
       · replace c17 := Bool.eq_false_iff.mpr c17
         subst c17
         have H1 : (some (t114, t115)) = some (r1, r2) := by rw [if_neg (show ¬ (false = true) by decide)] at H; exact H
         clear H
         have H := H1
         clear H1
         simp only [Option.some.injEq, Prod.mk.injEq] at H
         obtain ⟨rfl, rfl⟩ := H
         go_enter Try.func67, Try.ntmps67
         go_wp2_with (first | ((with_reducible refine az (f := 95) rfl ?_); refine aT (some 15) rfl rfl Try.func95 (by kernel_rfl) rfl #[.int .i64 a0, .int .i64 a1] rfl (by (try simp only [List.map_toArray, List.map_cons, List.map_nil]); first | done | rfl | (simp only [List.length_drop, List.length_take]; rfl)) ?_; (with_reducible refine (a_.calls a0 a1 t105 t106 false _ A3.out).mono ?_); rintro e w20 ⟨rfl, hb⟩; refine ⟨_, rfl, ?_⟩; have bu := aj.mk (aO (by repeat (first | (with_reducible first | exact HB.out | apply ak | apply ah | apply au) | exact HB.out)) hb); clear HB; have HB := bu; clear bu; (try clear hb); (try clear hb2); (try clear hk); (try clear hi)) | ((with_reducible refine az (f := 97) rfl ?_); refine aT (some 21) rfl rfl Try.func97 (by kernel_rfl) rfl #[.int .i64 t105] rfl (by (try simp only [List.map_toArray, List.map_cons, List.map_nil]); first | done | rfl | (simp only [List.length_drop, List.length_take]; rfl)) ?_; (with_reducible refine (aU.calls t105 t108 _ A4.out).mono ?_); rintro e w' ⟨rfl, ⟨nd, rfl⟩⟩; refine ⟨_, rfl, ?_⟩) | ((with_reducible refine az (f := 97) rfl ?_); refine aT (some 23) rfl rfl Try.func97 (by kernel_rfl) rfl #[.int .i64 t106] rfl (by (try simp only [List.map_toArray, List.map_cons, List.map_nil]); first | done | rfl | (simp only [List.length_drop, List.length_take]; rfl)) ?_; (with_reducible refine (aU.calls t106 t109 _ A5.out).mono ?_); rintro e w' ⟨rfl, ⟨nd, rfl⟩⟩; refine ⟨_, rfl, ?_⟩) | ((with_reducible refine az (f := 96) rfl ?_); refine aT (some 24) rfl rfl Try.func96 (by kernel_rfl) rfl #[.int .u64 t108, .int .u64 t109] rfl (by (try simp only [List.map_toArray, List.map_cons, List.map_nil]); first | done | rfl | (simp only [List.length_drop, List.length_take]; rfl)) ?_; (with_reducible refine (bits_Mul64.calls t108 t109 t110 t111 _ A6.out).mono ?_); rintro e w' ⟨rfl, ⟨nd, rfl⟩⟩; refine ⟨_, rfl, ?_⟩) | ((with_reducible refine az (f := 98) rfl ?_); refine aT (some 57) rfl rfl Try.func98 (by kernel_rfl) rfl #[.int .u64 (t110 / 16777216), .int .u64 (IntKind.u64.wrap ((Go.bits .or .u64 (t111 / 16777216) (IntKind.u64.wrap (t110 * 1099511627776))) + 1)), .bool ((decide (t105 < 0)) != (decide (t106 < 0)))] rfl (by (try simp only [List.map_toArray, List.map_cons, List.map_nil]); first | done | rfl | (simp only [List.length_drop, List.length_take]; rfl)) ?_; (with_reducible refine (aJ.calls (t110 / 16777216) (IntKind.u64.wrap ((Go.bits .or .u64 (t111 / 16777216) (IntKind.u64.wrap (t110 * 1099511627776))) + 1)) ((decide (t105 < 0)) != (decide (t106 < 0))) t114 t115 _ I5.out).mono ?_); rintro e KR ⟨rfl, hb⟩; refine ⟨_, rfl, ?_⟩; have bu := aj.mk (aO (by repeat (first | (with_reducible first | exact HB.out | apply ak | apply ah | apply au) | exact HB.out)) hb); clear HB; have HB := bu; clear bu; (try clear hb); (try clear hb2); (try clear hk); (try clear hi)))
         go_ret2
         exact ⟨by first | rfl | (simp [aN, aK] <;> rfl) | (simp [*, aN, aK] <;> rfl), by repeat (first | (with_reducible first | exact HB.out | apply ak | apply ah | apply au) | exact HB.out)⟩
     · rw [if_neg c15] at H
       have LG : ((Go.bits .and .u64 (Go.bits .or .u64 (t111 / 16777216) (IntKind.u64.wrap (t110 * 1099511627776))) 1) == 1) = false := beq_eq_false_iff_ne.mpr c15
       have QW : ((Go.bits .and .u64 (Go.bits .or .u64 (t111 / 16777216) (IntKind.u64.wrap (t110 * 1099511627776))) 1) != 1) = true := bne_iff_ne.mpr c15
       replace H := Option.bind_eq_some_iff.mp H
       obtain ⟨⟨t116, t117⟩, Uw, H⟩ := H
       replace H : (if t107 = true then (some (t116, true)) else (some (t116, t117))) = some (r1, r2) := H
       have A22 := aj.mk Uw
       clear Uw
       by_cases c23 : t107 = true
       · subst c23
         rw [if_pos rfl] at H
         simp only [Option.some.injEq, Prod.mk.injEq] at H
         obtain ⟨rfl, rfl⟩ := H
         go_enter Try.func67, Try.ntmps67
         go_wp2_with (first | ((with_reducible refine az (f := 95) rfl ?_); refine aT (some 15) rfl rfl Try.func95 (by kernel_rfl) rfl #[.int .i64 a0, .int .i64 a1] rfl (by (try simp only [List.map_toArray, List.map_cons, List.map_nil]); first | done | rfl | (simp only [List.length_drop, List.length_take]; rfl)) ?_; (with_reducible refine (a_.calls a0 a1 t105 t106 true _ A3.out).mono ?_); rintro e Zk ⟨rfl, hb⟩; refine ⟨_, rfl, ?_⟩; have bu := aj.mk (aO (by repeat (first | (with_reducible first | exact HB.out | apply ak | apply ah | apply au) | exact HB.out)) hb); clear HB; have HB := bu; clear bu; (try clear hb); (try clear hb2); (try clear hk); (try clear hi)) | ((with_reducible refine az (f := 97) rfl ?_); refine aT (some 21) rfl rfl Try.func97 (by kernel_rfl) rfl #[.int .i64 t105] rfl (by (try simp only [List.map_toArray, List.map_cons, List.map_nil]); first | done | rfl | (simp only [List.length_drop, List.length_take]; rfl)) ?_; (with_reducible refine (aU.calls t105 t108 _ A4.out).mono ?_); rintro e w' ⟨rfl, ⟨nd, rfl⟩⟩; refine ⟨_, rfl, ?_⟩) | ((with_reducible refine az (f := 97) rfl ?_); refine aT (some 23) rfl rfl Try.func97 (by kernel_rfl) rfl #[.int .i64 t106] rfl (by (try simp only [List.map_toArray, List.map_cons, List.map_nil]); first | done | rfl | (simp only [List.length_drop, List.length_take]; rfl)) ?_; (with_reducible refine (aU.calls t106 t109 _ A5.out).mono ?_); rintro e w' ⟨rfl, ⟨nd, rfl⟩⟩; refine ⟨_, rfl, ?_⟩) | ((with_reducible refine az (f := 96) rfl ?_); refine aT (some 24) rfl rfl Try.func96 (by kernel_rfl) rfl #[.int .u64 t108, .int .u64 t109] rfl (by (try simp only [List.map_toArray, List.map_cons, List.map_nil]); first | done | rfl | (simp only [List.length_drop, List.length_take]; rfl)) ?_; (with_reducible refine (bits_Mul64.calls t108 t109 t110 t111 _ A6.out).mono ?_); rintro e w' ⟨rfl, ⟨nd, rfl⟩⟩; refine ⟨_, rfl, ?_⟩) | ((with_reducible refine az (f := 98) rfl ?_); refine aT (some 57) rfl rfl Try.func98 (by kernel_rfl) rfl #[.int .u64 (t110 / 16777216), .int .u64 (Go.bits .or .u64 (t111 / 16777216) (IntKind.u64.wrap (t110 * 1099511627776))), .bool ((decide (t105 < 0)) != (decide (t106 < 0)))] rfl (by (try simp only [List.map_toArray, List.map_cons, List.map_nil]); first | done | rfl | (simp only [List.length_drop, List.length_take]; rfl)) ?_; (with_reducible refine (aJ.calls (t110 / 16777216) (Go.bits .or .u64 (t111 / 16777216) (IntKind.u64.wrap (t110 * 1099511627776))) ((decide (t105 < 0)) != (decide (t106 < 0))) t116 t117 _ A22.out).mono ?_); rintro e Wl ⟨rfl, hb⟩; refine ⟨_, rfl, ?_⟩; have bu := aj.mk (aO (by repeat (first | (with_reducible first | exact HB.out | apply ak | apply ah | apply au) | exact HB.out)) hb); clear HB; have HB := bu; clear bu; (try clear hb); (try clear hb2); (try clear hk); (try clear hi)))
         go_ret2
         exact ⟨by first | rfl | (simp [aN, aK] <;> rfl) | (simp [*, aN, aK] <;> rfl), by repeat (first | (with_reducible first | exact HB.out | apply ak | apply ah | apply au) | exact HB.out)⟩
       · replace c23 := Bool.eq_false_iff.mpr c23
         subst c23
         have H1 : (some (t116, t117)) = some (r1, r2) := by rw [if_neg (show ¬ (false = true) by decide)] at H; exact H
         clear H
         have H := H1
         clear H1
         simp only [Option.some.injEq, Prod.mk.injEq] at H
         obtain ⟨rfl, rfl⟩ := H
         go_enter Try.func67, Try.ntmps67
         go_wp2_with (first | ((with_reducible refine az (f := 95) rfl ?_); refine aT (some 15) rfl rfl Try.func95 (by kernel_rfl) rfl #[.int .i64 a0, .int .i64 a1] rfl (by (try simp only [List.map_toArray, List.map_cons, List.map_nil]); first | done | rfl | (simp only [List.length_drop, List.length_take]; rfl)) ?_; (with_reducible refine (a_.calls a0 a1 t105 t106 false _ A3.out).mono ?_); rintro e Pm ⟨rfl, hb⟩; refine ⟨_, rfl, ?_⟩; have bu := aj.mk (aO (by repeat (first | (with_reducible first | exact HB.out | apply ak | apply ah | apply au) | exact HB.out)) hb); clear HB; have HB := bu; clear bu; (try clear hb); (try clear hb2); (try clear hk); (try clear hi)) | ((with_reducible refine az (f := 97) rfl ?_); refine aT (some 21) rfl rfl Try.func97 (by kernel_rfl) rfl #[.int .i64 t105] rfl (by (try simp only [List.map_toArray, List.map_cons, List.map_nil]); first | done | rfl | (simp only [List.length_drop, List.length_take]; rfl)) ?_; (with_reducible refine (aU.calls t105 t108 _ A4.out).mono ?_); rintro e w' ⟨rfl, ⟨nd, rfl⟩⟩; refine ⟨_, rfl, ?_⟩) | ((with_reducible refine az (f := 97) rfl ?_); refine aT (some 23) rfl rfl Try.func97 (by kernel_rfl) rfl #[.int .i64 t106] rfl (by (try simp only [List.map_toArray, List.map_cons, List.map_nil]); first | done | rfl | (simp only [List.length_drop, List.length_take]; rfl)) ?_; (with_reducible refine (aU.calls t106 t109 _ A5.out).mono ?_); rintro e w' ⟨rfl, ⟨nd, rfl⟩⟩; refine ⟨_, rfl, ?_⟩) | ((with_reducible refine az (f := 96) rfl ?_); refine aT (some 24) rfl rfl Try.func96 (by kernel_rfl) rfl #[.int .u64 t108, .int .u64 t109] rfl (by (try simp only [List.map_toArray, List.map_cons, List.map_nil]); first | done | rfl | (simp only [List.length_drop, List.length_take]; rfl)) ?_; (with_reducible refine (bits_Mul64.calls t108 t109 t110 t111 _ A6.out).mono ?_); rintro e w' ⟨rfl, ⟨nd, rfl⟩⟩; refine ⟨_, rfl, ?_⟩) | ((with_reducible refine az (f := 98) rfl ?_); refine aT (some 57) rfl rfl Try.func98 (by kernel_rfl) rfl #[.int .u64 (t110 / 16777216), .int .u64 (Go.bits .or .u64 (t111 / 16777216) (IntKind.u64.wrap (t110 * 1099511627776))), .bool ((decide (t105 < 0)) != (decide (t106 < 0)))] rfl (by (try simp only [List.map_toArray, List.map_cons, List.map_nil]); first | done | rfl | (simp only [List.length_drop, List.length_take]; rfl)) ?_; (with_reducible refine (aJ.calls (t110 / 16777216) (Go.bits .or .u64 (t111 / 16777216) (IntKind.u64.wrap (t110 * 1099511627776))) ((decide (t105 < 0)) != (decide (t106 < 0))) t116 t117 _ A22.out).mono ?_); rintro e Pj ⟨rfl, hb⟩; refine ⟨_, rfl, ?_⟩; have bu := aj.mk (aO (by repeat (first | (with_reducible first | exact HB.out | apply ak | apply ah | apply au) | exact HB.out)) hb); clear HB; have HB := bu; clear bu; (try clear hb); (try clear hb2); (try clear hk); (try clear hi)))
         go_ret2
         exact ⟨by first | rfl | (simp [aN, aK] <;> rfl) | (simp [*, aN, aK] <;> rfl), by repeat (first | (with_reducible first | exact HB.out | apply ak | apply ah | apply au) | exact HB.out)⟩
   · rw [if_neg c14] at H
     have rG : ((Go.bits .and .u64 t111 16777215) == 8388608) = false := beq_eq_false_iff_ne.mpr c14
     have wu : ((Go.bits .and .u64 t111 16777215) != 8388608) = true := bne_iff_ne.mpr c14
     replace H := Option.bind_eq_some_iff.mp H
     obtain ⟨⟨t118, t119⟩, Ut, H⟩ := H
     replace H : (if t107 = true then (some (t118, true)) else (some (t118, t119))) = some (r1, r2) := H
     have A28 := aj.mk Ut
     clear Ut
     by_cases c29 : t107 = true
     · subst c29
       rw [if_pos rfl] at H
       simp only [Option.some.injEq, Prod.mk.injEq] at H
       obtain ⟨rfl, rfl⟩ := H
       go_enter Try.func67, Try.ntmps67
       go_wp2_with (first | ((with_reducible refine az (f := 95) rfl ?_); refine aT (some 15) rfl rfl Try.func95 (by kernel_rfl) rfl #[.int .i64 a0, .int .i64 a1] rfl (by (try simp only [List.map_toArray, List.map_cons, List.map_nil]); first | done | rfl | (simp only [List.length_drop, List.length_take]; rfl)) ?_; (with_reducible refine (a_.calls a0 a1 t105 t106 true _ A3.out).mono ?_); rintro e w30 ⟨rfl, hb⟩; refine ⟨_, rfl, ?_⟩; have bu := aj.mk (aO (by repeat (first | (with_reducible first | exact HB.out | apply ak | apply ah | apply au) | exact HB.out)) hb); clear HB; have HB := bu; clear bu; (try clear hb); (try clear hb2); (try clear hk); (try clear hi)) | ((with_reducible refine az (f := 97) rfl ?_); refine aT (some 21) rfl rfl Try.func97 (by kernel_rfl) rfl #[.int .i64 t105] rfl (by (try simp only [List.map_toArray, List.map_cons, List.map_nil]); first | done | rfl | (simp only [List.length_drop, List.length_take]; rfl)) ?_; (with_reducible refine (aU.calls t105 t108 _ A4.out).mono ?_); rintro e w' ⟨rfl, ⟨nd, rfl⟩⟩; refine ⟨_, rfl, ?_⟩) | ((with_reducible refine az (f := 97) rfl ?_); refine aT (some 23) rfl rfl Try.func97 (by kernel_rfl) rfl #[.int .i64 t106] rfl (by (try simp only [List.map_toArray, List.map_cons, List.map_nil]); first | done | rfl | (simp only [List.length_drop, List.length_take]; rfl)) ?_; (with_reducible refine (aU.calls t106 t109 _ A5.out).mono ?_); rintro e w' ⟨rfl, ⟨nd, rfl⟩⟩; refine ⟨_, rfl, ?_⟩) | ((with_reducible refine az (f := 96) rfl ?_); refine aT (some 24) rfl rfl Try.func96 (by kernel_rfl) rfl #[.int .u64 t108, .int .u64 t109] rfl (by (try simp only [List.map_toArray, List.map_cons, List.map_nil]); first | done | rfl | (simp only [List.length_drop, List.length_take]; rfl)) ?_; (with_reducible refine (bits_Mul64.calls t108 t109 t110 t111 _ A6.out).mono ?_); rintro e w' ⟨rfl, ⟨nd, rfl⟩⟩; refine ⟨_, rfl, ?_⟩) | ((with_reducible refine az (f := 98) rfl ?_); refine aT (some 57) rfl rfl Try.func98 (by kernel_rfl) rfl #[.int .u64 (t110 / 16777216), .int .u64 (Go.bits .or .u64 (t111 / 16777216) (IntKind.u64.wrap (t110 * 1099511627776))), .bool ((decide (t105 < 0)) != (decide (t106 < 0)))] rfl (by (try simp only [List.map_toArray, List.map_cons, List.map_nil]); first | done | rfl | (simp only [List.length_drop, List.length_take]; rfl)) ?_; (with_reducible refine (aJ.calls (t110 / 16777216) (Go.bits .or .u64 (t111 / 16777216) (IntKind.u64.wrap (t110 * 1099511627776))) ((decide (t105 < 0)) != (decide (t106 < 0))) t118 t119 _ A28.out).mono ?_); rintro e w31 ⟨rfl, hb⟩; refine ⟨_, rfl, ?_⟩; have bu := aj.mk (aO (by repeat (first | (with_reducible first | exact HB.out | apply ak | apply ah | apply au) | exact HB.out)) hb); clear HB; have HB := bu; clear bu; (try clear hb); (try clear hb2); (try clear hk); (try clear hi)))
       go_ret2
       exact ⟨by first | rfl | (simp [aN, aK] <;> rfl) | (simp [*, aN, aK] <;> rfl), by repeat (first | (with_reducible first | exact HB.out | apply ak | apply ah | apply au) | exact HB.out)⟩
     · replace c29 := Bool.eq_false_iff.mpr c29
       subst c29
       have H1 : (some (t118, t119)) = some (r1, r2) := by rw [if_neg (show ¬ (false = true) by decide)] at H; exact H
       clear H
       have H := H1
       clear H1
       simp only [Option.some.injEq, Prod.mk.injEq] at H
       obtain ⟨rfl, rfl⟩ := H
       go_enter Try.func67, Try.ntmps67
       go_wp2_with (first | ((with_reducible refine az (f := 95) rfl ?_); refine aT (some 15) rfl rfl Try.func95 (by kernel_rfl) rfl #[.int .i64 a0, .int .i64 a1] rfl (by (try simp only [List.map_toArray, List.map_cons, List.map_nil]); first | done | rfl | (simp only [List.length_drop, List.length_take]; rfl)) ?_; (with_reducible refine (a_.calls a0 a1 t105 t106 false _ A3.out).mono ?_); rintro e w32 ⟨rfl, hb⟩; refine ⟨_, rfl, ?_⟩; have bu := aj.mk (aO (by repeat (first | (with_reducible first | exact HB.out | apply ak | apply ah | apply au) | exact HB.out)) hb); clear HB; have HB := bu; clear bu; (try clear hb); (try clear hb2); (try clear hk); (try clear hi)) | ((with_reducible refine az (f := 97) rfl ?_); refine aT (some 21) rfl rfl Try.func97 (by kernel_rfl) rfl #[.int .i64 t105] rfl (by (try simp only [List.map_toArray, List.map_cons, List.map_nil]); first | done | rfl | (simp only [List.length_drop, List.length_take]; rfl)) ?_; (with_reducible refine (aU.calls t105 t108 _ A4.out).mono ?_); rintro e w' ⟨rfl, ⟨nd, rfl⟩⟩; refine ⟨_, rfl, ?_⟩) | ((with_reducible refine az (f := 97) rfl ?_); refine aT (some 23) rfl rfl Try.func97 (by kernel_rfl) rfl #[.int .i64 t106] rfl (by (try simp only [List.map_toArray, List.map_cons, List.map_nil]); first | done | rfl | (simp only [List.length_drop, List.length_take]; rfl)) ?_; (with_reducible refine (aU.calls t106 t109 _ A5.out).mono ?_); rintro e w' ⟨rfl, ⟨nd, rfl⟩⟩; refine ⟨_, rfl, ?_⟩) | ((with_reducible refine az (f := 96) rfl ?_); refine aT (some 24) rfl rfl Try.func96 (by kernel_rfl) rfl #[.int .u64 t108, .int .u64 t109] rfl (by (try simp only [List.map_toArray, List.map_cons, List.map_nil]); first | done | rfl | (simp only [List.length_drop, List.length_take]; rfl)) ?_; (with_reducible refine (bits_Mul64.calls t108 t109 t110 t111 _ A6.out).mono ?_); rintro e w' ⟨rfl, ⟨nd, rfl⟩⟩; refine ⟨_, rfl, ?_⟩) | ((with_reducible refine az (f := 98) rfl ?_); refine aT (some 57) rfl rfl Try.func98 (by kernel_rfl) rfl #[.int .u64 (t110 / 16777216), .int .u64 (Go.bits .or .u64 (t111 / 16777216) (IntKind.u64.wrap (t110 * 1099511627776))), .bool ((decide (t105 < 0)) != (decide (t106 < 0)))] rfl (by (try simp only [List.map_toArray, List.map_cons, List.map_nil]); first | done | rfl | (simp only [List.length_drop, List.length_take]; rfl)) ?_; (with_reducible refine (aJ.calls (t110 / 16777216) (Go.bits .or .u64 (t111 / 16777216) (IntKind.u64.wrap (t110 * 1099511627776))) ((decide (t105 < 0)) != (decide (t106 < 0))) t118 t119 _ A28.out).mono ?_); rintro e w33 ⟨rfl, hb⟩; refine ⟨_, rfl, ?_⟩; have bu := aj.mk (aO (by repeat (first | (with_reducible first | exact HB.out | apply ak | apply ah | apply au) | exact HB.out)) hb); clear HB; have HB := bu; clear bu; (try clear hb); (try clear hb2); (try clear hk); (try clear hi)))
       go_ret2
       exact ⟨by first | rfl | (simp [aN, aK] <;> rfl) | (simp [*, aN, aK] <;> rfl), by repeat (first | (with_reducible first | exact HB.out | apply ak | apply ah | apply au) | exact HB.out)⟩
def bits_LeadingZeros64.f (a0 : Int) : Option (Int) := if 0 ≤ a0 ∧ a0 < 18446744073709551616 then some (64 - (Lib.bitLen a0.toNat : Int)) else none
theorem bits_LeadingZeros64.calls (a0 : Int) (r : Int) (w : World) (h : bits_LeadingZeros64.f a0 = some r) :
 Calls Try.prog 121 #[.int .u64 a0] w fun e w' => e = .returned (.int .i64 r) ∧ bf w w' := by
 unfold bits_LeadingZeros64.f at h
 by_cases hb : 0 ≤ a0 ∧ a0 < 18446744073709551616
 · rw [if_pos hb] at h
   simp only [Option.some.injEq] at h
   subst h
   refine (Try.bits_LeadingZeros64 a0 w hb.1 (by omega)).mono ?_
   rintro e w' ⟨rfl, rfl⟩
   exact ⟨rfl, bf.refl _⟩
 · rw [if_neg hb] at h
   cases h
end Go.Proofs.Ytnijhjbcjeohhaa.PQ

