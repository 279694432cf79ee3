import Derived.Test.YtnijhjbcjeohhaaProg
import Derived.Below
import Derived.Deep.Draws
import Derived.Deep.AppendLies
import Derived.Maps.AppendAt
import Derived.OwnWalk
import Derived.Laws.BytesArg
import Derived.Laws.MakeOwn
import Derived.Laws.OwnMore
import Derived.Deep.OwnRows
import Derived.Tactics
import Derived.Lib.ConvBytes
import Derived.Laws.Slices
import Derived.WalkKit
import Derived.KernelRfl
import Derived.RowKit3
import Derived.Deep.LoopGhost
import Derived.Deep.QuietTactic
import Derived.BigQuiet
import Derived.WideLaws
import Derived.Deep.DeepCutAuto
import Derived.Deep.CutBlock
import Derived.Deep.RegionHeld3
import Derived.Laws.Rows
import Derived.Lib.AppendStr
import Derived.ArgAppend
import Derived.Laws.IdiomCopy
import Derived.OrdersHeld
import Derived.Laws.BitsLemmas
import Derived.RowKit
import Derived.Test.YtnijhjbcjeohhaaV0
import Derived.Test.YtnijhjbcjeohhaaV1
/- Joined and thinned by a program of this session's own (wip/pack2.py) out of its texts (wip/ of its repo); parts were laid by its own program (wip/print-patch.py over the kit's print) out of the translation; Lean checks all. -/
set_option maxRecDepth 100000
set_option maxHeartbeats 8000000
namespace Go.Proofs.Ytnijhjbcjeohhaa.PQ
open Go.RowKit Go.Proofs.af.aA Go.Proofs.af.aN Go.Proofs.af.aP
attribute [local go_sem] gz gu jc iZ fD fC gy gq
set_option linter.unusedVariables false
set_option linter.unusedSimpArgs false
def Om : Option Int → Value
 | none => .nilIface
 | some c => .iface 0 (.int .i64 c)
theorem aI : Om none = .nilIface := rfl
theorem aH (c : Int) : Om (some c) = .iface 0 (.int .i64 c) := rfl
end Go.Proofs.Ytnijhjbcjeohhaa.PQ

namespace Go.Proofs.Ytnijhjbcjeohhaa.PQ
open Go.RowKit Go.Proofs.af.aA Go.Proofs.af.aN Go.Proofs.af.aP
attribute [local go_sem] gz gu jc iZ fD fC gy gq
set_option linter.unusedVariables false
set_option linter.unusedSimpArgs false
theorem Ox (d : Nat) (w : World) (x0 y0 : Int) (x1 y1 : Int) :
 (Op.equalIn (d + 2) 134 (.agg #[.int .i64 x0, .int .i64 x1]) (.agg #[.int .i64 y0, .int .i64 y1])).run Try.prog w = .ok (x0 == y0 && (x1 == y1)) w := by
 refine VF Try.underlying134 (by kernel_rfl) ?_
 refine Oq (by rfl) (by go_simp; rfl) (by go_simp; rfl) (by go_simp) ?_
 exact Oo (by rfl) (by go_simp; rfl) (by go_simp; rfl) (by go_simp)
end Go.Proofs.Ytnijhjbcjeohhaa.PQ

namespace Go.Proofs.Ytnijhjbcjeohhaa.PQ
open Go.RowKit Go.Proofs.af.aA Go.Proofs.af.aN Go.Proofs.af.aP
attribute [local go_sem] gz gu jc iZ fD fC gy gq
set_option linter.unusedVariables false
set_option linter.unusedSimpArgs false
def bH.f (a0 : Int) : Option (Int × Bool) := some (mn (mx a0 (-70368744177664)) 70368744177663, ((mn (mx a0 (-70368744177664)) 70368744177663) != a0))
theorem bH.calls (a0 : Int) (r1 : Int) (r2 : Bool) (w : World) (h : bH.f a0 = some (r1, r2)) :
 Calls Try.prog 86 #[.int .i64 a0] w fun e w' => e = .returned (.tuple #[.int .i64 r1, .bool r2]) ∧ Below w.heap.size w w' := by
 have HB := aj.mk (Below.refl w.heap.size w)
 have H : (some (mn (mx a0 (-70368744177664)) 70368744177663, ((mn (mx a0 (-70368744177664)) 70368744177663) != a0))) = some (r1, r2) := h
 clear h
 obtain ⟨WZ, Qx⟩ : ∃ j_ : Int, (mx a0 (-70368744177664)) = j_ := ⟨_, rfl⟩
 replace H : (some (mn (WZ) 70368744177663, ((mn (WZ) 70368744177663) != a0))) = some (r1, r2) := by first | (rw [Qx] at H; exact H) | (simp only [Qx] at H ⊢; exact H)
 have aeT : (if a0 < (-70368744177664) then (-70368744177664) else a0) = WZ := Qx
 obtain ⟨zZ, vI⟩ : ∃ j_ : Int, (mn (WZ) 70368744177663) = j_ := ⟨_, rfl⟩
 replace H : (some (zZ, ((zZ) != a0))) = some (r1, r2) := by first | (rw [vI] at H; exact H) | (simp only [vI] at H ⊢; exact H)
 have Yj : (if 70368744177663 < (WZ) then 70368744177663 else (WZ)) = zZ := vI
 simp only [Option.some.injEq, Prod.mk.injEq] at H
 obtain ⟨rfl, rfl⟩ := H
 go_enter Try.func86, Try.ntmps86
 go_wp2
 go_ret2
 exact ⟨by first | rfl | (simp [aI, aH] <;> rfl) | (simp only [← Qx, ← vI]; first | rfl | (simp [aI, aH] <;> rfl)) | (simp [*, aI, aH] <;> rfl), by repeat (first | (with_reducible first | exact HB.out | apply ak | apply ah | apply au) | exact HB.out)⟩
def bg.f (a0 : Int) (a1 : Int) : Option (Int × Int × Bool) := (bH.f a0).bind fun zI => ((bH.f a1).bind fun r_ => (if zI.2 = true then (some (zI.1, r_.1, true)) else (some (zI.1, r_.1, r_.2))))
theorem bg.calls (a0 : Int) (a1 : Int) (r1 : Int) (r2 : Int) (r3 : Bool) (w : World) (h : bg.f a0 a1 = some (r1, r2, r3)) :
 Calls Try.prog 95 #[.int .i64 a0, .int .i64 a1] w fun e w' => e = .returned (.tuple #[.int .i64 r1, .int .i64 r2, .bool r3]) ∧ Below w.heap.size w w' := by
 have HB := aj.mk (Below.refl w.heap.size w)
 have H : ((bH.f a0).bind fun zI => ((bH.f a1).bind fun r_ => (if zI.2 = true then (some (zI.1, r_.1, true)) else (some (zI.1, r_.1, r_.2))))) = some (r1, r2, r3) := h
 clear h
 replace H := Option.bind_eq_some_iff.mp H
 obtain ⟨⟨t101, t102⟩, CJ, H⟩ := H
 replace H : ((bH.f a1).bind fun r_ => (if t102 = true then (some (t101, r_.1, true)) else (some (t101, r_.1, r_.2)))) = some (r1, r2, r3) := H
 have A3 := aj.mk CJ
 clear CJ
 replace H := Option.bind_eq_some_iff.mp H
 obtain ⟨⟨t103, t104⟩, Gt, H⟩ := H
 replace H : (if t102 = true then (some (t101, t103, true)) else (some (t101, t103, t104))) = some (r1, r2, r3) := H
 have A4 := aj.mk Gt
 clear Gt
 by_cases c5 : t102 = true
 · subst c5
   rw [if_pos rfl] at H
   simp only [Option.some.injEq, Prod.mk.injEq] at H
   obtain ⟨rfl, rfl, rfl⟩ := H
   go_enter Try.func95, Try.ntmps95
   go_wp2_with (first | ((with_reducible refine az (f := 86) rfl ?_); refine aT (some 11) rfl rfl Try.func86 (by kernel_rfl) rfl #[.int .i64 a0] rfl (by (try simp only [List.map_toArray, List.map_cons, List.map_nil]); first | done | rfl | (simp only [List.length_drop, List.length_take]; rfl)) ?_; (with_reducible refine (bH.calls a0 t101 true _ A3.out).mono ?_); rintro e w6 ⟨rfl, hb⟩; refine ⟨_, rfl, ?_⟩; have bu := aj.mk (aQ (by repeat (first | (with_reducible first | exact HB.out | apply ak | apply ah | apply au) | exact HB.out)) hb); clear HB; have HB := bu; clear bu; (try clear hb); (try clear hb2); (try clear hk); (try clear hi)) | ((with_reducible refine az (f := 86) rfl ?_); refine aT (some 16) rfl rfl Try.func86 (by kernel_rfl) rfl #[.int .i64 a1] rfl (by (try simp only [List.map_toArray, List.map_cons, List.map_nil]); first | done | rfl | (simp only [List.length_drop, List.length_take]; rfl)) ?_; (with_reducible refine (bH.calls a1 t103 t104 _ A4.out).mono ?_); rintro e w7 ⟨rfl, hb⟩; refine ⟨_, rfl, ?_⟩; have bu := aj.mk (aQ (by repeat (first | (with_reducible first | exact HB.out | apply ak | apply ah | apply au) | exact HB.out)) hb); clear HB; have HB := bu; clear bu; (try clear hb); (try clear hb2); (try clear hk); (try clear hi)))
   go_ret3
   exact ⟨by first | rfl | (simp [aI, aH] <;> rfl) | (simp [*, aI, aH] <;> rfl), by repeat (first | (with_reducible first | exact HB.out | apply ak | apply ah | apply au) | exact HB.out)⟩
 · replace c5 := Bool.eq_false_iff.mpr c5
   subst c5
   have H1 : (some (t101, t103, t104)) = some (r1, r2, r3) := by rw [if_neg (show ¬ (false = true) by decide)] at H; exact H
   clear H
   have H := H1
   clear H1
   simp only [Option.some.injEq, Prod.mk.injEq] at H
   obtain ⟨rfl, rfl, rfl⟩ := H
   go_enter Try.func95, Try.ntmps95
   go_wp2_with (first | ((with_reducible refine az (f := 86) rfl ?_); refine aT (some 11) rfl rfl Try.func86 (by kernel_rfl) rfl #[.int .i64 a0] rfl (by (try simp only [List.map_toArray, List.map_cons, List.map_nil]); first | done | rfl | (simp only [List.length_drop, List.length_take]; rfl)) ?_; (with_reducible refine (bH.calls a0 t101 false _ A3.out).mono ?_); rintro e w8 ⟨rfl, hb⟩; refine ⟨_, rfl, ?_⟩; have bu := aj.mk (aQ (by repeat (first | (with_reducible first | exact HB.out | apply ak | apply ah | apply au) | exact HB.out)) hb); clear HB; have HB := bu; clear bu; (try clear hb); (try clear hb2); (try clear hk); (try clear hi)) | ((with_reducible refine az (f := 86) rfl ?_); refine aT (some 16) rfl rfl Try.func86 (by kernel_rfl) rfl #[.int .i64 a1] rfl (by (try simp only [List.map_toArray, List.map_cons, List.map_nil]); first | done | rfl | (simp only [List.length_drop, List.length_take]; rfl)) ?_; (with_reducible refine (bH.calls a1 t103 t104 _ A4.out).mono ?_); rintro e w9 ⟨rfl, hb⟩; refine ⟨_, rfl, ?_⟩; have bu := aj.mk (aQ (by repeat (first | (with_reducible first | exact HB.out | apply ak | apply ah | apply au) | exact HB.out)) hb); clear HB; have HB := bu; clear bu; (try clear hb); (try clear hb2); (try clear hk); (try clear hi)))
   go_ret3
   exact ⟨by first | rfl | (simp [aI, aH] <;> rfl) | (simp [*, aI, aH] <;> rfl), by repeat (first | (with_reducible first | exact HB.out | apply ak | apply ah | apply au) | exact HB.out)⟩
def bits_Mul64.f (a0 : Int) (a1 : Int) : Option (Int × Int) := if 0 ≤ a0 ∧ a0 < 18446744073709551616 ∧ 0 ≤ a1 ∧ a1 < 18446744073709551616 then some (a0 * a1 / 18446744073709551616, a0 * a1 % 18446744073709551616) else none
theorem bits_Mul64.calls (a0 : Int) (a1 : Int) (r1 : Int) (r2 : Int) (w : World) (h : bits_Mul64.f a0 a1 = some (r1, r2)) :
 Calls Try.prog 96 #[.int .u64 a0, .int .u64 a1] w fun e w' => e = .returned (.tuple #[.int .u64 r1, .int .u64 r2]) ∧ bn w w' := by
 unfold bits_Mul64.f at h
 by_cases hb : 0 ≤ a0 ∧ a0 < 18446744073709551616 ∧ 0 ≤ a1 ∧ a1 < 18446744073709551616
 · rw [if_pos hb] at h
   simp only [Option.some.injEq, Prod.mk.injEq] at h
   obtain ⟨rfl, rfl⟩ := h
   obtain ⟨x, rfl⟩ := Int.eq_ofNat_of_zero_le hb.1
   obtain ⟨y, rfl⟩ := Int.eq_ofNat_of_zero_le hb.2.2.1
   refine (Try.bits_Mul64 x y (by omega) (by omega) w).mono ?_
   rintro e w' ⟨rfl, rfl⟩
   exact ⟨by simp, bn.refl _⟩
 · rw [if_neg hb] at h
   cases h
def aV.f (a0 : Int) : Option (Int) := if a0 < 0 then (some (IntKind.u64.wrap (wrap64 (-a0)))) else (some (IntKind.u64.wrap (a0)))
theorem aV.calls (a0 : Int) (r : Int) (w : World) (h : aV.f a0 = some r) :
 Calls Try.prog 97 #[.int .i64 a0] w fun e w' => e = .returned (.int .u64 r) ∧ bn w w' := by
 have H : (if a0 < 0 then (some (IntKind.u64.wrap (wrap64 (-a0)))) else (some (IntKind.u64.wrap (a0)))) = some r := h
 clear h
 by_cases c2 : a0 < 0
 · rw [if_pos c2] at H
   have ac0 : decide (a0 < 0) = true := decide_eq_true c2
   clear c2
   obtain rfl := Option.some.inj H
   go_enter Try.func97, Try.ntmps97
   go_wp2
   go_ret
   exact ⟨by first | rfl | (simp; done) | (simp [*]; done), by repeat (first | exact bn.refl _ | apply bn.step)⟩
 · rw [if_neg c2] at H
   have ac0 : decide (a0 < 0) = false := decide_eq_false c2
   clear c2
   obtain rfl := Option.some.inj H
   go_enter Try.func97, Try.ntmps97
   go_wp2
   go_ret
   exact ⟨by first | rfl | (simp; done) | (simp [*]; done), by repeat (first | exact bn.refl _ | apply bn.step)⟩
def qH (a0 : Int) : Int := mn (mx a0 (-70368744177664)) 70368744177663
def wW (a0 : Int) : Bool := (mn (mx a0 (-70368744177664)) 70368744177663) != a0
theorem BJ (a0 : Int) (w : World) :
 Calls Try.prog 86 #[.int .i64 a0] w fun e w' => e = .returned (.tuple #[.int .i64 (qH a0), .bool (wW a0)]) ∧ Below w.heap.size w w' :=
 bH.calls a0 _ _ w rfl
def oN (b : Bool) (a0 : Int) : Int := if b = true then wrap64 (-a0) else a0
theorem qB (a0 : Int) (b : Bool) (A : Addr) (w : World) (hc : w.cell? A = some (.bool b)) :
 Calls Try.prog 113 #[.int .i64 a0, .pointer (some A)] w fun e w' => e = .returned (.int .i64 (oN b a0)) ∧ w' = w := by
 cases b
 · go_enter Try.func113, Try.ntmps113
   go_wp2
   go_ret
   exact ⟨by simp [oN], rfl⟩
 · go_enter Try.func113, Try.ntmps113
   go_wp2
   go_ret
   exact ⟨by simp [oN], rfl⟩
theorem yI (a0 a1 : Int) (b : Bool) (w : World) (hd : ((a0 != 0) = true) ∨ ((a0 != 0) = false ∧ decide (a1 > 70368744177664) = true)) :
 Calls Try.prog 98 #[.int .u64 a0, .int .u64 a1, .bool b] w fun e w' => e = .returned (.tuple #[.int .i64 (qH (oN b 70368744177664)), .bool true]) ∧ Below w.heap.size w w' := by
 rcases hd with hd | ⟨hd, hd2⟩
 all_goals
  go_enter Try.func98, Try.ntmps98
  go_wp2_with (first | (go_at_call 113; refine (qB _ b _ _ (by simp)).mono ?_; rintro e w' ⟨rfl, rfl⟩) | (go_at_call 86; refine (BJ _ _).mono ?_; rintro e w' ⟨rfl, hb⟩))
  go_ret2
  exact ⟨rfl, ((Below.refl _ _).alloc (Nat.le_refl _) _).trans (hb.mono (by simp))⟩
theorem Ei (a0 a1 : Int) (b : Bool) (w : World) (hd : (a0 != 0) = false) (hd2 : decide (a1 > 70368744177664) = false) :
 Calls Try.prog 98 #[.int .u64 a0, .int .u64 a1, .bool b] w fun e w' => e = .returned (.tuple #[.int .i64 (qH (oN b (wrap64 a1))), .bool (wW (oN b (wrap64 a1)))]) ∧ Below w.heap.size w w' := by
 go_enter Try.func98, Try.ntmps98
 go_wp2_with (first | (go_at_call 113; refine (qB _ b _ _ (by simp)).mono ?_; rintro e w' ⟨rfl, rfl⟩) | (go_at_call 86; refine (BJ _ _).mono ?_; rintro e w' ⟨rfl, hb⟩))
 go_ret2
 exact ⟨rfl, ((Below.refl _ _).alloc (Nat.le_refl _) _).trans (hb.mono (by simp))⟩
def aO.f (a0 : Int) (a1 : Int) (a2 : Bool) : Option (Int × Bool) :=
 if a0 = 0 then (if a1 > 70368744177664 then some (qH (oN a2 70368744177664), true) else some (qH (oN a2 (wrap64 a1)), wW (oN a2 (wrap64 a1)))) else some (qH (oN a2 70368744177664), true)
theorem aO.calls (a0 : Int) (a1 : Int) (a2 : Bool) (r1 : Int) (r2 : Bool) (w : World) (h : aO.f a0 a1 a2 = some (r1, r2)) :
 Calls Try.prog 98 #[.int .u64 a0, .int .u64 a1, .bool a2] w fun e w' => e = .returned (.tuple #[.int .i64 r1, .bool r2]) ∧ Below w.heap.size w w' := by
 unfold aO.f at h
 by_cases h0 : a0 = 0
 · rw [if_pos h0] at h
   by_cases h1 : a1 > 70368744177664
   · rw [if_pos h1] at h
     simp only [Option.some.injEq, Prod.mk.injEq] at h
     obtain ⟨rfl, rfl⟩ := h
     exact yI a0 a1 a2 w (.inr ⟨by simp [h0], by simpa using h1⟩)
   · rw [if_neg h1] at h
     simp only [Option.some.injEq, Prod.mk.injEq] at h
     obtain ⟨rfl, rfl⟩ := h
     exact Ei a0 a1 a2 w (by simp [h0]) (by simpa using h1)
 · rw [if_neg h0] at h
   simp only [Option.some.injEq, Prod.mk.injEq] at h
   obtain ⟨rfl, rfl⟩ := h
   exact yI a0 a1 a2 w (.inl (by simp [h0]))
def qc.f (a0 : Int) (a1 : Int) : Option (Int × Bool) := (bg.f a0 a1).bind fun gI => ((aV.f gI.1).bind fun t108 => ((aV.f gI.2.1).bind fun t109 => ((bits_Mul64.f t108 t109).bind fun bC => (if (Go.bits .and .u64 bC.2 16777215) > 8388608 then ((aO.f (bC.1 / 16777216) (IntKind.u64.wrap ((Go.bits .or .u64 (bC.2 / 16777216) (IntKind.u64.wrap (bC.1 * 1099511627776))) + 1)) ((decide (gI.1 < 0)) != (decide (gI.2.1 < 0)))).bind fun jC => (if gI.2.2 = true then (some (jC.1, true)) else (some (jC.1, jC.2)))) else (if (Go.bits .and .u64 bC.2 16777215) = 8388608 then (if (Go.bits .and .u64 (Go.bits .or .u64 (bC.2 / 16777216) (IntKind.u64.wrap (bC.1 * 1099511627776))) 1) = 1 then ((aO.f (bC.1 / 16777216) (IntKind.u64.wrap ((Go.bits .or .u64 (bC.2 / 16777216) (IntKind.u64.wrap (bC.1 * 1099511627776))) + 1)) ((decide (gI.1 < 0)) != (decide (gI.2.1 < 0)))).bind fun jB => (if gI.2.2 = true then (some (jB.1, true)) else (some (jB.1, jB.2)))) else ((aO.f (bC.1 / 16777216) (Go.bits .or .u64 (bC.2 / 16777216) (IntKind.u64.wrap (bC.1 * 1099511627776))) ((decide (gI.1 < 0)) != (decide (gI.2.1 < 0)))).bind fun jA => (if gI.2.2 = true then (some (jA.1, true)) else (some (jA.1, jA.2))))) else ((aO.f (bC.1 / 16777216) (Go.bits .or .u64 (bC.2 / 16777216) (IntKind.u64.wrap (bC.1 * 1099511627776))) ((decide (gI.1 < 0)) != (decide (gI.2.1 < 0)))).bind fun jy => (if gI.2.2 = true then (some (jy.1, true)) else (some (jy.1, jy.2)))))))))
theorem qc.calls (a0 : Int) (a1 : Int) (r1 : Int) (r2 : Bool) (w : World) (h : qc.f a0 a1 = some (r1, r2)) :
 Calls Try.prog 67 #[.int .i64 a0, .int .i64 a1] w fun e w' => e = .returned (.tuple #[.int .i64 r1, .bool r2]) ∧ Below w.heap.size w w' := by
 have HB := aj.mk (Below.refl w.heap.size w)
 have H : ((bg.f a0 a1).bind fun gI => ((aV.f gI.1).bind fun t108 => ((aV.f gI.2.1).bind fun t109 => ((bits_Mul64.f t108 t109).bind fun bC => (if (Go.bits .and .u64 bC.2 16777215) > 8388608 then ((aO.f (bC.1 / 16777216) (IntKind.u64.wrap ((Go.bits .or .u64 (bC.2 / 16777216) (IntKind.u64.wrap (bC.1 * 1099511627776))) + 1)) ((decide (gI.1 < 0)) != (decide (gI.2.1 < 0)))).bind fun jC => (if gI.2.2 = true then (some (jC.1, true)) else (some (jC.1, jC.2)))) else (if (Go.bits .and .u64 bC.2 16777215) = 8388608 then (if (Go.bits .and .u64 (Go.bits .or .u64 (bC.2 / 16777216) (IntKind.u64.wrap (bC.1 * 1099511627776))) 1) = 1 then ((aO.f (bC.1 / 16777216) (IntKind.u64.wrap ((Go.bits .or .u64 (bC.2 / 16777216) (IntKind.u64.wrap (bC.1 * 1099511627776))) + 1)) ((decide (gI.1 < 0)) != (decide (gI.2.1 < 0)))).bind fun jB => (if gI.2.2 = true then (some (jB.1, true)) else (some (jB.1, jB.2)))) else ((aO.f (bC.1 / 16777216) (Go.bits .or .u64 (bC.2 / 16777216) (IntKind.u64.wrap (bC.1 * 1099511627776))) ((decide (gI.1 < 0)) != (decide (gI.2.1 < 0)))).bind fun jA => (if gI.2.2 = true then (some (jA.1, true)) else (some (jA.1, jA.2))))) else ((aO.f (bC.1 / 16777216) (Go.bits .or .u64 (bC.2 / 16777216) (IntKind.u64.wrap (bC.1 * 1099511627776))) ((decide (gI.1 < 0)) != (decide (gI.2.1 < 0)))).bind fun jy => (if gI.2.2 = true then (some (jy.1, true)) else (some (jy.1, jy.2)))))))))) = some (r1, r2) := h
 clear h
 replace H := Option.bind_eq_some_iff.mp H
 obtain ⟨⟨t105, t106, t107⟩, CJ, H⟩ := H
 replace H : ((aV.f t105).bind fun t108 => ((aV.f t106).bind fun t109 => ((bits_Mul64.f t108 t109).bind fun bC => (if (Go.bits .and .u64 bC.2 16777215) > 8388608 then ((aO.f (bC.1 / 16777216) (IntKind.u64.wrap ((Go.bits .or .u64 (bC.2 / 16777216) (IntKind.u64.wrap (bC.1 * 1099511627776))) + 1)) ((decide (t105 < 0)) != (decide (t106 < 0)))).bind fun jC => (if t107 = true then (some (jC.1, true)) else (some (jC.1, jC.2)))) else (if (Go.bits .and .u64 bC.2 16777215) = 8388608 then (if (Go.bits .and .u64 (Go.bits .or .u64 (bC.2 / 16777216) (IntKind.u64.wrap (bC.1 * 1099511627776))) 1) = 1 then ((aO.f (bC.1 / 16777216) (IntKind.u64.wrap ((Go.bits .or .u64 (bC.2 / 16777216) (IntKind.u64.wrap (bC.1 * 1099511627776))) + 1)) ((decide (t105 < 0)) != (decide (t106 < 0)))).bind fun jB => (if t107 = true then (some (jB.1, true)) else (some (jB.1, jB.2)))) else ((aO.f (bC.1 / 16777216) (Go.bits .or .u64 (bC.2 / 16777216) (IntKind.u64.wrap (bC.1 * 1099511627776))) ((decide (t105 < 0)) != (decide (t106 < 0)))).bind fun jA => (if t107 = true then (some (jA.1, true)) else (some (jA.1, jA.2))))) else ((aO.f (bC.1 / 16777216) (Go.bits .or .u64 (bC.2 / 16777216) (IntKind.u64.wrap (bC.1 * 1099511627776))) ((decide (t105 < 0)) != (decide (t106 < 0)))).bind fun jy => (if t107 = true then (some (jy.1, true)) else (some (jy.1, jy.2))))))))) = some (r1, r2) := H
 have A3 := aj.mk CJ
 clear CJ
 replace H := Option.bind_eq_some_iff.mp H
 obtain ⟨t108, Gt, H⟩ := H
 replace H : ((aV.f t106).bind fun t109 => ((bits_Mul64.f t108 t109).bind fun bC => (if (Go.bits .and .u64 bC.2 16777215) > 8388608 then ((aO.f (bC.1 / 16777216) (IntKind.u64.wrap ((Go.bits .or .u64 (bC.2 / 16777216) (IntKind.u64.wrap (bC.1 * 1099511627776))) + 1)) ((decide (t105 < 0)) != (decide (t106 < 0)))).bind fun jC => (if t107 = true then (some (jC.1, true)) else (some (jC.1, jC.2)))) else (if (Go.bits .and .u64 bC.2 16777215) = 8388608 then (if (Go.bits .and .u64 (Go.bits .or .u64 (bC.2 / 16777216) (IntKind.u64.wrap (bC.1 * 1099511627776))) 1) = 1 then ((aO.f (bC.1 / 16777216) (IntKind.u64.wrap ((Go.bits .or .u64 (bC.2 / 16777216) (IntKind.u64.wrap (bC.1 * 1099511627776))) + 1)) ((decide (t105 < 0)) != (decide (t106 < 0)))).bind fun jB => (if t107 = true then (some (jB.1, true)) else (some (jB.1, jB.2)))) else ((aO.f (bC.1 / 16777216) (Go.bits .or .u64 (bC.2 / 16777216) (IntKind.u64.wrap (bC.1 * 1099511627776))) ((decide (t105 < 0)) != (decide (t106 < 0)))).bind fun jA => (if t107 = true then (some (jA.1, true)) else (some (jA.1, jA.2))))) else ((aO.f (bC.1 / 16777216) (Go.bits .or .u64 (bC.2 / 16777216) (IntKind.u64.wrap (bC.1 * 1099511627776))) ((decide (t105 < 0)) != (decide (t106 < 0)))).bind fun jy => (if t107 = true then (some (jy.1, true)) else (some (jy.1, jy.2)))))))) = some (r1, r2) := H
 have A4 := aj.mk Gt
 clear Gt
 replace H := Option.bind_eq_some_iff.mp H
 obtain ⟨t109, A50, H⟩ := H
 replace H : ((bits_Mul64.f t108 t109).bind fun bC => (if (Go.bits .and .u64 bC.2 16777215) > 8388608 then ((aO.f (bC.1 / 16777216) (IntKind.u64.wrap ((Go.bits .or .u64 (bC.2 / 16777216) (IntKind.u64.wrap (bC.1 * 1099511627776))) + 1)) ((decide (t105 < 0)) != (decide (t106 < 0)))).bind fun jC => (if t107 = true then (some (jC.1, true)) else (some (jC.1, jC.2)))) else (if (Go.bits .and .u64 bC.2 16777215) = 8388608 then (if (Go.bits .and .u64 (Go.bits .or .u64 (bC.2 / 16777216) (IntKind.u64.wrap (bC.1 * 1099511627776))) 1) = 1 then ((aO.f (bC.1 / 16777216) (IntKind.u64.wrap ((Go.bits .or .u64 (bC.2 / 16777216) (IntKind.u64.wrap (bC.1 * 1099511627776))) + 1)) ((decide (t105 < 0)) != (decide (t106 < 0)))).bind fun jB => (if t107 = true then (some (jB.1, true)) else (some (jB.1, jB.2)))) else ((aO.f (bC.1 / 16777216) (Go.bits .or .u64 (bC.2 / 16777216) (IntKind.u64.wrap (bC.1 * 1099511627776))) ((decide (t105 < 0)) != (decide (t106 < 0)))).bind fun jA => (if t107 = true then (some (jA.1, true)) else (some (jA.1, jA.2))))) else ((aO.f (bC.1 / 16777216) (Go.bits .or .u64 (bC.2 / 16777216) (IntKind.u64.wrap (bC.1 * 1099511627776))) ((decide (t105 < 0)) != (decide (t106 < 0)))).bind fun jy => (if t107 = true then (some (jy.1, true)) else (some (jy.1, jy.2))))))) = some (r1, r2) := H
 have A5 := aj.mk A50
 clear A50
 replace H := Option.bind_eq_some_iff.mp H
 obtain ⟨⟨t110, t111⟩, Um, H⟩ := H
 replace H : (if (Go.bits .and .u64 t111 16777215) > 8388608 then ((aO.f (t110 / 16777216) (IntKind.u64.wrap ((Go.bits .or .u64 (t111 / 16777216) (IntKind.u64.wrap (t110 * 1099511627776))) + 1)) ((decide (t105 < 0)) != (decide (t106 < 0)))).bind fun jC => (if t107 = true then (some (jC.1, true)) else (some (jC.1, jC.2)))) else (if (Go.bits .and .u64 t111 16777215) = 8388608 then (if (Go.bits .and .u64 (Go.bits .or .u64 (t111 / 16777216) (IntKind.u64.wrap (t110 * 1099511627776))) 1) = 1 then ((aO.f (t110 / 16777216) (IntKind.u64.wrap ((Go.bits .or .u64 (t111 / 16777216) (IntKind.u64.wrap (t110 * 1099511627776))) + 1)) ((decide (t105 < 0)) != (decide (t106 < 0)))).bind fun jB => (if t107 = true then (some (jB.1, true)) else (some (jB.1, jB.2)))) else ((aO.f (t110 / 16777216) (Go.bits .or .u64 (t111 / 16777216) (IntKind.u64.wrap (t110 * 1099511627776))) ((decide (t105 < 0)) != (decide (t106 < 0)))).bind fun jA => (if t107 = true then (some (jA.1, true)) else (some (jA.1, jA.2))))) else ((aO.f (t110 / 16777216) (Go.bits .or .u64 (t111 / 16777216) (IntKind.u64.wrap (t110 * 1099511627776))) ((decide (t105 < 0)) != (decide (t106 < 0)))).bind fun jy => (if t107 = true then (some (jy.1, true)) else (some (jy.1, jy.2)))))) = some (r1, r2) := H
 have A6 := aj.mk Um
 clear Um
 by_cases c7 : (Go.bits .and .u64 t111 16777215) > 8388608
 · rw [if_pos c7] at H
   have wX : decide (8388608 < (Go.bits .and .u64 t111 16777215)) = true := decide_eq_true c7
   clear c7
   replace H := Option.bind_eq_some_iff.mp H
   obtain ⟨⟨t112, t113⟩, Z_, H⟩ := H
   replace H : (if t107 = true then (some (t112, true)) else (some (t112, t113))) = some (r1, r2) := H
   have A8 := aj.mk Z_
   clear Z_
   by_cases c9 : t107 = true
   · subst c9
     rw [if_pos rfl] at H
     simp only [Option.some.injEq, Prod.mk.injEq] at H
     obtain ⟨rfl, rfl⟩ := H
     go_enter Try.func67, Try.ntmps67
     go_wp2_with (first | ((with_reducible refine az (f := 95) rfl ?_); refine aT (some 15) rfl rfl Try.func95 (by kernel_rfl) rfl #[.int .i64 a0, .int .i64 a1] rfl (by (try simp only [List.map_toArray, List.map_cons, List.map_nil]); first | done | rfl | (simp only [List.length_drop, List.length_take]; rfl)) ?_; (with_reducible refine (bg.calls a0 a1 t105 t106 true _ A3.out).mono ?_); rintro e w10 ⟨rfl, hb⟩; refine ⟨_, rfl, ?_⟩; have bu := aj.mk (aQ (by repeat (first | (with_reducible first | exact HB.out | apply ak | apply ah | apply au) | exact HB.out)) hb); clear HB; have HB := bu; clear bu; (try clear hb); (try clear hb2); (try clear hk); (try clear hi)) | ((with_reducible refine az (f := 97) rfl ?_); refine aT (some 21) rfl rfl Try.func97 (by kernel_rfl) rfl #[.int .i64 t105] rfl (by (try simp only [List.map_toArray, List.map_cons, List.map_nil]); first | done | rfl | (simp only [List.length_drop, List.length_take]; rfl)) ?_; (with_reducible refine (aV.calls t105 t108 _ A4.out).mono ?_); rintro e w' ⟨rfl, ⟨nd, rfl⟩⟩; refine ⟨_, rfl, ?_⟩) | ((with_reducible refine az (f := 97) rfl ?_); refine aT (some 23) rfl rfl Try.func97 (by kernel_rfl) rfl #[.int .i64 t106] rfl (by (try simp only [List.map_toArray, List.map_cons, List.map_nil]); first | done | rfl | (simp only [List.length_drop, List.length_take]; rfl)) ?_; (with_reducible refine (aV.calls t106 t109 _ A5.out).mono ?_); rintro e w' ⟨rfl, ⟨nd, rfl⟩⟩; refine ⟨_, rfl, ?_⟩) | ((with_reducible refine az (f := 96) rfl ?_); refine aT (some 24) rfl rfl Try.func96 (by kernel_rfl) rfl #[.int .u64 t108, .int .u64 t109] rfl (by (try simp only [List.map_toArray, List.map_cons, List.map_nil]); first | done | rfl | (simp only [List.length_drop, List.length_take]; rfl)) ?_; (with_reducible refine (bits_Mul64.calls t108 t109 t110 t111 _ A6.out).mono ?_); rintro e w' ⟨rfl, ⟨nd, rfl⟩⟩; refine ⟨_, rfl, ?_⟩) | ((with_reducible refine az (f := 98) rfl ?_); refine aT (some 57) rfl rfl Try.func98 (by kernel_rfl) rfl #[.int .u64 (t110 / 16777216), .int .u64 (IntKind.u64.wrap ((Go.bits .or .u64 (t111 / 16777216) (IntKind.u64.wrap (t110 * 1099511627776))) + 1)), .bool ((decide (t105 < 0)) != (decide (t106 < 0)))] rfl (by (try simp only [List.map_toArray, List.map_cons, List.map_nil]); first | done | rfl | (simp only [List.length_drop, List.length_take]; rfl)) ?_; (with_reducible refine (aO.calls (t110 / 16777216) (IntKind.u64.wrap ((Go.bits .or .u64 (t111 / 16777216) (IntKind.u64.wrap (t110 * 1099511627776))) + 1)) ((decide (t105 < 0)) != (decide (t106 < 0))) t112 t113 _ A8.out).mono ?_); rintro e MJ ⟨rfl, hb⟩; refine ⟨_, rfl, ?_⟩; have bu := aj.mk (aQ (by repeat (first | (with_reducible first | exact HB.out | apply ak | apply ah | apply au) | exact HB.out)) hb); clear HB; have HB := bu; clear bu; (try clear hb); (try clear hb2); (try clear hk); (try clear hi)))
     go_ret2
     exact ⟨by first | rfl | (simp [aI, aH] <;> rfl) | (simp [*, aI, aH] <;> rfl), by repeat (first | (with_reducible first | exact HB.out | apply ak | apply ah | apply au) | exact HB.out)⟩
   · replace c9 := Bool.eq_false_iff.mpr c9
     subst c9
     have H1 : (some (t112, t113)) = some (r1, r2) := by rw [if_neg (show ¬ (false = true) by decide)] at H; exact H
     clear H
     have H := H1
     clear H1
     simp only [Option.some.injEq, Prod.mk.injEq] at H
     obtain ⟨rfl, rfl⟩ := H
     go_enter Try.func67, Try.ntmps67
     go_wp2_with (first | ((with_reducible refine az (f := 95) rfl ?_); refine aT (some 15) rfl rfl Try.func95 (by kernel_rfl) rfl #[.int .i64 a0, .int .i64 a1] rfl (by (try simp only [List.map_toArray, List.map_cons, List.map_nil]); first | done | rfl | (simp only [List.length_drop, List.length_take]; rfl)) ?_; (with_reducible refine (bg.calls a0 a1 t105 t106 false _ A3.out).mono ?_); rintro e w12 ⟨rfl, hb⟩; refine ⟨_, rfl, ?_⟩; have bu := aj.mk (aQ (by repeat (first | (with_reducible first | exact HB.out | apply ak | apply ah | apply au) | exact HB.out)) hb); clear HB; have HB := bu; clear bu; (try clear hb); (try clear hb2); (try clear hk); (try clear hi)) | ((with_reducible refine az (f := 97) rfl ?_); refine aT (some 21) rfl rfl Try.func97 (by kernel_rfl) rfl #[.int .i64 t105] rfl (by (try simp only [List.map_toArray, List.map_cons, List.map_nil]); first | done | rfl | (simp only [List.length_drop, List.length_take]; rfl)) ?_; (with_reducible refine (aV.calls t105 t108 _ A4.out).mono ?_); rintro e w' ⟨rfl, ⟨nd, rfl⟩⟩; refine ⟨_, rfl, ?_⟩) | ((with_reducible refine az (f := 97) rfl ?_); refine aT (some 23) rfl rfl Try.func97 (by kernel_rfl) rfl #[.int .i64 t106] rfl (by (try simp only [List.map_toArray, List.map_cons, List.map_nil]); first | done | rfl | (simp only [List.length_drop, List.length_take]; rfl)) ?_; (with_reducible refine (aV.calls t106 t109 _ A5.out).mono ?_); rintro e w' ⟨rfl, ⟨nd, rfl⟩⟩; refine ⟨_, rfl, ?_⟩) | ((with_reducible refine az (f := 96) rfl ?_); refine aT (some 24) rfl rfl Try.func96 (by kernel_rfl) rfl #[.int .u64 t108, .int .u64 t109] rfl (by (try simp only [List.map_toArray, List.map_cons, List.map_nil]); first | done | rfl | (simp only [List.length_drop, List.length_take]; rfl)) ?_; (with_reducible refine (bits_Mul64.calls t108 t109 t110 t111 _ A6.out).mono ?_); rintro e w' ⟨rfl, ⟨nd, rfl⟩⟩; refine ⟨_, rfl, ?_⟩) | ((with_reducible refine az (f := 98) rfl ?_); refine aT (some 57) rfl rfl Try.func98 (by kernel_rfl) rfl #[.int .u64 (t110 / 16777216), .int .u64 (IntKind.u64.wrap ((Go.bits .or .u64 (t111 / 16777216) (IntKind.u64.wrap (t110 * 1099511627776))) + 1)), .bool ((decide (t105 < 0)) != (decide (t106 < 0)))] rfl (by (try simp only [List.map_toArray, List.map_cons, List.map_nil]); first | done | rfl | (simp only [List.length_drop, List.length_take]; rfl)) ?_; (with_reducible refine (aO.calls (t110 / 16777216) (IntKind.u64.wrap ((Go.bits .or .u64 (t111 / 16777216) (IntKind.u64.wrap (t110 * 1099511627776))) + 1)) ((decide (t105 < 0)) != (decide (t106 < 0))) t112 t113 _ A8.out).mono ?_); rintro e ML ⟨rfl, hb⟩; refine ⟨_, rfl, ?_⟩; have bu := aj.mk (aQ (by repeat (first | (with_reducible first | exact HB.out | apply ak | apply ah | apply au) | exact HB.out)) hb); clear HB; have HB := bu; clear bu; (try clear hb); (try clear hb2); (try clear hk); (try clear hi)))
     go_ret2
     exact ⟨by first | rfl | (simp [aI, aH] <;> rfl) | (simp [*, aI, aH] <;> rfl), by repeat (first | (with_reducible first | exact HB.out | apply ak | apply ah | apply au) | exact HB.out)⟩
 · rw [if_neg c7] at H
   have wX : decide (8388608 < (Go.bits .and .u64 t111 16777215)) = false := decide_eq_false c7
   clear c7
   by_cases c14 : (Go.bits .and .u64 t111 16777215) = 8388608
   · rw [if_pos c14] at H
     have vT : ((Go.bits .and .u64 t111 16777215) == 8388608) = true := beq_iff_eq.mpr c14
     have zC : ((Go.bits .and .u64 t111 16777215) != 8388608) = false := bne_eq_false_iff_eq.mpr c14
     clear c14
     by_cases c15 : (Go.bits .and .u64 (Go.bits .or .u64 (t111 / 16777216) (IntKind.u64.wrap (t110 * 1099511627776))) 1) = 1
     · rw [if_pos c15] at H
       have T_ : ((Go.bits .and .u64 (Go.bits .or .u64 (t111 / 16777216) (IntKind.u64.wrap (t110 * 1099511627776))) 1) == 1) = true := beq_iff_eq.mpr c15
       have YD : ((Go.bits .and .u64 (Go.bits .or .u64 (t111 / 16777216) (IntKind.u64.wrap (t110 * 1099511627776))) 1) != 1) = false := bne_eq_false_iff_eq.mpr c15
       clear c15
       replace H := Option.bind_eq_some_iff.mp H
       obtain ⟨⟨t114, t115⟩, PS, H⟩ := H
       replace H : (if t107 = true then (some (t114, true)) else (some (t114, t115))) = some (r1, r2) := H
       have PT := aj.mk PS
       clear PS
       by_cases c17 : t107 = true
       · subst c17
         rw [if_pos rfl] at H
         simp only [Option.some.injEq, Prod.mk.injEq] at H
         obtain ⟨rfl, rfl⟩ := H
         go_enter Try.func67, Try.ntmps67
         go_wp2_with (first | ((with_reducible refine az (f := 95) rfl ?_); refine aT (some 15) rfl rfl Try.func95 (by kernel_rfl) rfl #[.int .i64 a0, .int .i64 a1] rfl (by (try simp only [List.map_toArray, List.map_cons, List.map_nil]); first | done | rfl | (simp only [List.length_drop, List.length_take]; rfl)) ?_; (with_reducible refine (bg.calls a0 a1 t105 t106 true _ A3.out).mono ?_); rintro e w18 ⟨rfl, hb⟩; refine ⟨_, rfl, ?_⟩; have bu := aj.mk (aQ (by repeat (first | (with_reducible first | exact HB.out | apply ak | apply ah | apply au) | exact HB.out)) hb); clear HB; have HB := bu; clear bu; (try clear hb); (try clear hb2); (try clear hk); (try clear hi)) | ((with_reducible refine az (f := 97) rfl ?_); refine aT (some 21) rfl rfl Try.func97 (by kernel_rfl) rfl #[.int .i64 t105] rfl (by (try simp only [List.map_toArray, List.map_cons, List.map_nil]); first | done | rfl | (simp only [List.length_drop, List.length_take]; rfl)) ?_; (with_reducible refine (aV.calls t105 t108 _ A4.out).mono ?_); rintro e w' ⟨rfl, ⟨nd, rfl⟩⟩; refine ⟨_, rfl, ?_⟩) | ((with_reducible refine az (f := 97) rfl ?_); refine aT (some 23) rfl rfl Try.func97 (by kernel_rfl) rfl #[.int .i64 t106] rfl (by (try simp only [List.map_toArray, List.map_cons, List.map_nil]); first | done | rfl | (simp only [List.length_drop, List.length_take]; rfl)) ?_; (with_reducible refine (aV.calls t106 t109 _ A5.out).mono ?_); rintro e w' ⟨rfl, ⟨nd, rfl⟩⟩; refine ⟨_, rfl, ?_⟩) | ((with_reducible refine az (f := 96) rfl ?_); refine aT (some 24) rfl rfl Try.func96 (by kernel_rfl) rfl #[.int .u64 t108, .int .u64 t109] rfl (by (try simp only [List.map_toArray, List.map_cons, List.map_nil]); first | done | rfl | (simp only [List.length_drop, List.length_take]; rfl)) ?_; (with_reducible refine (bits_Mul64.calls t108 t109 t110 t111 _ A6.out).mono ?_); rintro e w' ⟨rfl, ⟨nd, rfl⟩⟩; refine ⟨_, rfl, ?_⟩) | ((with_reducible refine az (f := 98) rfl ?_); refine aT (some 57) rfl rfl Try.func98 (by kernel_rfl) rfl #[.int .u64 (t110 / 16777216), .int .u64 (IntKind.u64.wrap ((Go.bits .or .u64 (t111 / 16777216) (IntKind.u64.wrap (t110 * 1099511627776))) + 1)), .bool ((decide (t105 < 0)) != (decide (t106 < 0)))] rfl (by (try simp only [List.map_toArray, List.map_cons, List.map_nil]); first | done | rfl | (simp only [List.length_drop, List.length_take]; rfl)) ?_; (with_reducible refine (aO.calls (t110 / 16777216) (IntKind.u64.wrap ((Go.bits .or .u64 (t111 / 16777216) (IntKind.u64.wrap (t110 * 1099511627776))) + 1)) ((decide (t105 < 0)) != (decide (t106 < 0))) t114 t115 _ PT.out).mono ?_); rintro e w19 ⟨rfl, hb⟩; refine ⟨_, rfl, ?_⟩; have bu := aj.mk (aQ (by repeat (first | (with_reducible first | exact HB.out | apply ak | apply ah | apply au) | exact HB.out)) hb); clear HB; have HB := bu; clear bu; (try clear hb); (try clear hb2); (try clear hk); (try clear hi)))
         go_ret2
         exact ⟨by first | rfl | (simp [aI, aH] <;> rfl) | (simp [*, aI, aH] <;> rfl), by repeat (first | (with_reducible first | exact HB.out | apply ak | apply ah | apply au) | exact HB.out)⟩
       · replace c17 := Bool.eq_false_iff.mpr c17
         subst c17
         have H1 : (some (t114, t115)) = some (r1, r2) := by rw [if_neg (show ¬ (false = true) by decide)] at H; exact H
         clear H
         have H := H1
         clear H1
         simp only [Option.some.injEq, Prod.mk.injEq] at H
         obtain ⟨rfl, rfl⟩ := H
         go_enter Try.func67, Try.ntmps67
         go_wp2_with (first | ((with_reducible refine az (f := 95) rfl ?_); refine aT (some 15) rfl rfl Try.func95 (by kernel_rfl) rfl #[.int .i64 a0, .int .i64 a1] rfl (by (try simp only [List.map_toArray, List.map_cons, List.map_nil]); first | done | rfl | (simp only [List.length_drop, List.length_take]; rfl)) ?_; (with_reducible refine (bg.calls a0 a1 t105 t106 false _ A3.out).mono ?_); rintro e w20 ⟨rfl, hb⟩; refine ⟨_, rfl, ?_⟩; have bu := aj.mk (aQ (by repeat (first | (with_reducible first | exact HB.out | apply ak | apply ah | apply au) | exact HB.out)) hb); clear HB; have HB := bu; clear bu; (try clear hb); (try clear hb2); (try clear hk); (try clear hi)) | ((with_reducible refine az (f := 97) rfl ?_); refine aT (some 21) rfl rfl Try.func97 (by kernel_rfl) rfl #[.int .i64 t105] rfl (by (try simp only [List.map_toArray, List.map_cons, List.map_nil]); first | done | rfl | (simp only [List.length_drop, List.length_take]; rfl)) ?_; (with_reducible refine (aV.calls t105 t108 _ A4.out).mono ?_); rintro e w' ⟨rfl, ⟨nd, rfl⟩⟩; refine ⟨_, rfl, ?_⟩) | ((with_reducible refine az (f := 97) rfl ?_); refine aT (some 23) rfl rfl Try.func97 (by kernel_rfl) rfl #[.int .i64 t106] rfl (by (try simp only [List.map_toArray, List.map_cons, List.map_nil]); first | done | rfl | (simp only [List.length_drop, List.length_take]; rfl)) ?_; (with_reducible refine (aV.calls t106 t109 _ A5.out).mono ?_); rintro e w' ⟨rfl, ⟨nd, rfl⟩⟩; refine ⟨_, rfl, ?_⟩) | ((with_reducible refine az (f := 96) rfl ?_); refine aT (some 24) rfl rfl Try.func96 (by kernel_rfl) rfl #[.int .u64 t108, .int .u64 t109] rfl (by (try simp only [List.map_toArray, List.map_cons, List.map_nil]); first | done | rfl | (simp only [List.length_drop, List.length_take]; rfl)) ?_; (with_reducible refine (bits_Mul64.calls t108 t109 t110 t111 _ A6.out).mono ?_); rintro e w' ⟨rfl, ⟨nd, rfl⟩⟩; refine ⟨_, rfl, ?_⟩) | ((with_reducible refine az (f := 98) rfl ?_); refine aT (some 57) rfl rfl Try.func98 (by kernel_rfl) rfl #[.int .u64 (t110 / 16777216), .int .u64 (IntKind.u64.wrap ((Go.bits .or .u64 (t111 / 16777216) (IntKind.u64.wrap (t110 * 1099511627776))) + 1)), .bool ((decide (t105 < 0)) != (decide (t106 < 0)))] rfl (by (try simp only [List.map_toArray, List.map_cons, List.map_nil]); first | done | rfl | (simp only [List.length_drop, List.length_take]; rfl)) ?_; (with_reducible refine (aO.calls (t110 / 16777216) (IntKind.u64.wrap ((Go.bits .or .u64 (t111 / 16777216) (IntKind.u64.wrap (t110 * 1099511627776))) + 1)) ((decide (t105 < 0)) != (decide (t106 < 0))) t114 t115 _ PT.out).mono ?_); rintro e SV ⟨rfl, hb⟩; refine ⟨_, rfl, ?_⟩; have bu := aj.mk (aQ (by repeat (first | (with_reducible first | exact HB.out | apply ak | apply ah | apply au) | exact HB.out)) hb); clear HB; have HB := bu; clear bu; (try clear hb); (try clear hb2); (try clear hk); (try clear hi)))
         go_ret2
         exact ⟨by first | rfl | (simp [aI, aH] <;> rfl) | (simp [*, aI, aH] <;> rfl), by repeat (first | (with_reducible first | exact HB.out | apply ak | apply ah | apply au) | exact HB.out)⟩
     · rw [if_neg c15] at H
       have T_ : ((Go.bits .and .u64 (Go.bits .or .u64 (t111 / 16777216) (IntKind.u64.wrap (t110 * 1099511627776))) 1) == 1) = false := beq_eq_false_iff_ne.mpr c15
       have YD : ((Go.bits .and .u64 (Go.bits .or .u64 (t111 / 16777216) (IntKind.u64.wrap (t110 * 1099511627776))) 1) != 1) = true := bne_iff_ne.mpr c15
       replace H := Option.bind_eq_some_iff.mp H
       obtain ⟨⟨t116, t117⟩, aai, H⟩ := H
       replace H : (if t107 = true then (some (t116, true)) else (some (t116, t117))) = some (r1, r2) := H
       have A22 := aj.mk aai
       clear aai
       by_cases c23 : t107 = true
       · subst c23
         rw [if_pos rfl] at H
         simp only [Option.some.injEq, Prod.mk.injEq] at H
         obtain ⟨rfl, rfl⟩ := H
         go_enter Try.func67, Try.ntmps67
         go_wp2_with (first | ((with_reducible refine az (f := 95) rfl ?_); refine aT (some 15) rfl rfl Try.func95 (by kernel_rfl) rfl #[.int .i64 a0, .int .i64 a1] rfl (by (try simp only [List.map_toArray, List.map_cons, List.map_nil]); first | done | rfl | (simp only [List.length_drop, List.length_take]; rfl)) ?_; (with_reducible refine (bg.calls a0 a1 t105 t106 true _ A3.out).mono ?_); rintro e w24 ⟨rfl, hb⟩; refine ⟨_, rfl, ?_⟩; have bu := aj.mk (aQ (by repeat (first | (with_reducible first | exact HB.out | apply ak | apply ah | apply au) | exact HB.out)) hb); clear HB; have HB := bu; clear bu; (try clear hb); (try clear hb2); (try clear hk); (try clear hi)) | ((with_reducible refine az (f := 97) rfl ?_); refine aT (some 21) rfl rfl Try.func97 (by kernel_rfl) rfl #[.int .i64 t105] rfl (by (try simp only [List.map_toArray, List.map_cons, List.map_nil]); first | done | rfl | (simp only [List.length_drop, List.length_take]; rfl)) ?_; (with_reducible refine (aV.calls t105 t108 _ A4.out).mono ?_); rintro e w' ⟨rfl, ⟨nd, rfl⟩⟩; refine ⟨_, rfl, ?_⟩) | ((with_reducible refine az (f := 97) rfl ?_); refine aT (some 23) rfl rfl Try.func97 (by kernel_rfl) rfl #[.int .i64 t106] rfl (by (try simp only [List.map_toArray, List.map_cons, List.map_nil]); first | done | rfl | (simp only [List.length_drop, List.length_take]; rfl)) ?_; (with_reducible refine (aV.calls t106 t109 _ A5.out).mono ?_); rintro e w' ⟨rfl, ⟨nd, rfl⟩⟩; refine ⟨_, rfl, ?_⟩) | ((with_reducible refine az (f := 96) rfl ?_); refine aT (some 24) rfl rfl Try.func96 (by kernel_rfl) rfl #[.int .u64 t108, .int .u64 t109] rfl (by (try simp only [List.map_toArray, List.map_cons, List.map_nil]); first | done | rfl | (simp only [List.length_drop, List.length_take]; rfl)) ?_; (with_reducible refine (bits_Mul64.calls t108 t109 t110 t111 _ A6.out).mono ?_); rintro e w' ⟨rfl, ⟨nd, rfl⟩⟩; refine ⟨_, rfl, ?_⟩) | ((with_reducible refine az (f := 98) rfl ?_); refine aT (some 57) rfl rfl Try.func98 (by kernel_rfl) rfl #[.int .u64 (t110 / 16777216), .int .u64 (Go.bits .or .u64 (t111 / 16777216) (IntKind.u64.wrap (t110 * 1099511627776))), .bool ((decide (t105 < 0)) != (decide (t106 < 0)))] rfl (by (try simp only [List.map_toArray, List.map_cons, List.map_nil]); first | done | rfl | (simp only [List.length_drop, List.length_take]; rfl)) ?_; (with_reducible refine (aO.calls (t110 / 16777216) (Go.bits .or .u64 (t111 / 16777216) (IntKind.u64.wrap (t110 * 1099511627776))) ((decide (t105 < 0)) != (decide (t106 < 0))) t116 t117 _ A22.out).mono ?_); rintro e w25 ⟨rfl, hb⟩; refine ⟨_, rfl, ?_⟩; have bu := aj.mk (aQ (by repeat (first | (with_reducible first | exact HB.out | apply ak | apply ah | apply au) | exact HB.out)) hb); clear HB; have HB := bu; clear bu; (try clear hb); (try clear hb2); (try clear hk); (try clear hi)))
         go_ret2
         exact ⟨by first | rfl | (simp [aI, aH] <;> rfl) | (simp [*, aI, aH] <;> rfl), by repeat (first | (with_reducible first | exact HB.out | apply ak | apply ah | apply au) | exact HB.out)⟩
       · replace c23 := Bool.eq_false_iff.mpr c23
         subst c23
         have H1 : (some (t116, t117)) = some (r1, r2) := by rw [if_neg (show ¬ (false = true) by decide)] at H; exact H
         clear H
         have H := H1
         clear H1
         simp only [Option.some.injEq, Prod.mk.injEq] at H
         obtain ⟨rfl, rfl⟩ := H
         go_enter Try.func67, Try.ntmps67
         go_wp2_with (first | ((with_reducible refine az (f := 95) rfl ?_); refine aT (some 15) rfl rfl Try.func95 (by kernel_rfl) rfl #[.int .i64 a0, .int .i64 a1] rfl (by (try simp only [List.map_toArray, List.map_cons, List.map_nil]); first | done | rfl | (simp only [List.length_drop, List.length_take]; rfl)) ?_; (with_reducible refine (bg.calls a0 a1 t105 t106 false _ A3.out).mono ?_); rintro e WX ⟨rfl, hb⟩; refine ⟨_, rfl, ?_⟩; have bu := aj.mk (aQ (by repeat (first | (with_reducible first | exact HB.out | apply ak | apply ah | apply au) | exact HB.out)) hb); clear HB; have HB := bu; clear bu; (try clear hb); (try clear hb2); (try clear hk); (try clear hi)) | ((with_reducible refine az (f := 97) rfl ?_); refine aT (some 21) rfl rfl Try.func97 (by kernel_rfl) rfl #[.int .i64 t105] rfl (by (try simp only [List.map_toArray, List.map_cons, List.map_nil]); first | done | rfl | (simp only [List.length_drop, List.length_take]; rfl)) ?_; (with_reducible refine (aV.calls t105 t108 _ A4.out).mono ?_); rintro e w' ⟨rfl, ⟨nd, rfl⟩⟩; refine ⟨_, rfl, ?_⟩) | ((with_reducible refine az (f := 97) rfl ?_); refine aT (some 23) rfl rfl Try.func97 (by kernel_rfl) rfl #[.int .i64 t106] rfl (by (try simp only [List.map_toArray, List.map_cons, List.map_nil]); first | done | rfl | (simp only [List.length_drop, List.length_take]; rfl)) ?_; (with_reducible refine (aV.calls t106 t109 _ A5.out).mono ?_); rintro e w' ⟨rfl, ⟨nd, rfl⟩⟩; refine ⟨_, rfl, ?_⟩) | ((with_reducible refine az (f := 96) rfl ?_); refine aT (some 24) rfl rfl Try.func96 (by kernel_rfl) rfl #[.int .u64 t108, .int .u64 t109] rfl (by (try simp only [List.map_toArray, List.map_cons, List.map_nil]); first | done | rfl | (simp only [List.length_drop, List.length_take]; rfl)) ?_; (with_reducible refine (bits_Mul64.calls t108 t109 t110 t111 _ A6.out).mono ?_); rintro e w' ⟨rfl, ⟨nd, rfl⟩⟩; refine ⟨_, rfl, ?_⟩) | ((with_reducible refine az (f := 98) rfl ?_); refine aT (some 57) rfl rfl Try.func98 (by kernel_rfl) rfl #[.int .u64 (t110 / 16777216), .int .u64 (Go.bits .or .u64 (t111 / 16777216) (IntKind.u64.wrap (t110 * 1099511627776))), .bool ((decide (t105 < 0)) != (decide (t106 < 0)))] rfl (by (try simp only [List.map_toArray, List.map_cons, List.map_nil]); first | done | rfl | (simp only [List.length_drop, List.length_take]; rfl)) ?_; (with_reducible refine (aO.calls (t110 / 16777216) (Go.bits .or .u64 (t111 / 16777216) (IntKind.u64.wrap (t110 * 1099511627776))) ((decide (t105 < 0)) != (decide (t106 < 0))) t116 t117 _ A22.out).mono ?_); rintro e WW ⟨rfl, hb⟩; refine ⟨_, rfl, ?_⟩; have bu := aj.mk (aQ (by repeat (first | (with_reducible first | exact HB.out | apply ak | apply ah | apply au) | exact HB.out)) hb); clear HB; have HB := bu; clear bu; (try clear hb); (try clear hb2); (try clear hk); (try clear hi)))
         go_ret2
         exact ⟨by first | rfl | (simp [aI, aH] <;> rfl) | (simp [*, aI, aH] <;> rfl), by repeat (first | (with_reducible first | exact HB.out | apply ak | apply ah | apply au) | exact HB.out)⟩
   · rw [if_neg c14] at H
     have vT : ((Go.bits .and .u64 t111 16777215) == 8388608) = false := beq_eq_false_iff_ne.mpr c14
     have zC : ((Go.bits .and .u64 t111 16777215) != 8388608) = true := bne_iff_ne.mpr c14
     replace H := Option.bind_eq_some_iff.mp H
     obtain ⟨⟨t118, t119⟩, aag, H⟩ := H
     replace H : (if t107 = true then (some (t118, true)) else (some (t118, t119))) = some (r1, r2) := H
     have A28 := aj.mk aag
     clear aag
     by_cases c29 : t107 = true
     · subst c29
       rw [if_pos rfl] at H
       simp only [Option.some.injEq, Prod.mk.injEq] at H
       obtain ⟨rfl, rfl⟩ := H
       go_enter Try.func67, Try.ntmps67
       go_wp2_with (first | ((with_reducible refine az (f := 95) rfl ?_); refine aT (some 15) rfl rfl Try.func95 (by kernel_rfl) rfl #[.int .i64 a0, .int .i64 a1] rfl (by (try simp only [List.map_toArray, List.map_cons, List.map_nil]); first | done | rfl | (simp only [List.length_drop, List.length_take]; rfl)) ?_; (with_reducible refine (bg.calls a0 a1 t105 t106 true _ A3.out).mono ?_); rintro e w30 ⟨rfl, hb⟩; refine ⟨_, rfl, ?_⟩; have bu := aj.mk (aQ (by repeat (first | (with_reducible first | exact HB.out | apply ak | apply ah | apply au) | exact HB.out)) hb); clear HB; have HB := bu; clear bu; (try clear hb); (try clear hb2); (try clear hk); (try clear hi)) | ((with_reducible refine az (f := 97) rfl ?_); refine aT (some 21) rfl rfl Try.func97 (by kernel_rfl) rfl #[.int .i64 t105] rfl (by (try simp only [List.map_toArray, List.map_cons, List.map_nil]); first | done | rfl | (simp only [List.length_drop, List.length_take]; rfl)) ?_; (with_reducible refine (aV.calls t105 t108 _ A4.out).mono ?_); rintro e w' ⟨rfl, ⟨nd, rfl⟩⟩; refine ⟨_, rfl, ?_⟩) | ((with_reducible refine az (f := 97) rfl ?_); refine aT (some 23) rfl rfl Try.func97 (by kernel_rfl) rfl #[.int .i64 t106] rfl (by (try simp only [List.map_toArray, List.map_cons, List.map_nil]); first | done | rfl | (simp only [List.length_drop, List.length_take]; rfl)) ?_; (with_reducible refine (aV.calls t106 t109 _ A5.out).mono ?_); rintro e w' ⟨rfl, ⟨nd, rfl⟩⟩; refine ⟨_, rfl, ?_⟩) | ((with_reducible refine az (f := 96) rfl ?_); refine aT (some 24) rfl rfl Try.func96 (by kernel_rfl) rfl #[.int .u64 t108, .int .u64 t109] rfl (by (try simp only [List.map_toArray, List.map_cons, List.map_nil]); first | done | rfl | (simp only [List.length_drop, List.length_take]; rfl)) ?_; (with_reducible refine (bits_Mul64.calls t108 t109 t110 t111 _ A6.out).mono ?_); rintro e w' ⟨rfl, ⟨nd, rfl⟩⟩; refine ⟨_, rfl, ?_⟩) | ((with_reducible refine az (f := 98) rfl ?_); refine aT (some 57) rfl rfl Try.func98 (by kernel_rfl) rfl #[.int .u64 (t110 / 16777216), .int .u64 (Go.bits .or .u64 (t111 / 16777216) (IntKind.u64.wrap (t110 * 1099511627776))), .bool ((decide (t105 < 0)) != (decide (t106 < 0)))] rfl (by (try simp only [List.map_toArray, List.map_cons, List.map_nil]); first | done | rfl | (simp only [List.length_drop, List.length_take]; rfl)) ?_; (with_reducible refine (aO.calls (t110 / 16777216) (Go.bits .or .u64 (t111 / 16777216) (IntKind.u64.wrap (t110 * 1099511627776))) ((decide (t105 < 0)) != (decide (t106 < 0))) t118 t119 _ A28.out).mono ?_); rintro e w31 ⟨rfl, hb⟩; refine ⟨_, rfl, ?_⟩; have bu := aj.mk (aQ (by repeat (first | (with_reducible first | exact HB.out | apply ak | apply ah | apply au) | exact HB.out)) hb); clear HB; have HB := bu; clear bu; (try clear hb); (try clear hb2); (try clear hk); (try clear hi)))
       go_ret2
       exact ⟨by first | rfl | (simp [aI, aH] <;> rfl) | (simp [*, aI, aH] <;> rfl), by repeat (first | (with_reducible first | exact HB.out | apply ak | apply ah | apply au) | exact HB.out)⟩
     · replace c29 := Bool.eq_false_iff.mpr c29
       subst c29
       have H1 : (some (t118, t119)) = some (r1, r2) := by rw [if_neg (show ¬ (false = true) by decide)] at H; exact H
       clear H
       have H := H1
       clear H1
       simp only [Option.some.injEq, Prod.mk.injEq] at H
       obtain ⟨rfl, rfl⟩ := H
       go_enter Try.func67, Try.ntmps67
       go_wp2_with (first | ((with_reducible refine az (f := 95) rfl ?_); refine aT (some 15) rfl rfl Try.func95 (by kernel_rfl) rfl #[.int .i64 a0, .int .i64 a1] rfl (by (try simp only [List.map_toArray, List.map_cons, List.map_nil]); first | done | rfl | (simp only [List.length_drop, List.length_take]; rfl)) ?_; (with_reducible refine (bg.calls a0 a1 t105 t106 false _ A3.out).mono ?_); rintro e w32 ⟨rfl, hb⟩; refine ⟨_, rfl, ?_⟩; have bu := aj.mk (aQ (by repeat (first | (with_reducible first | exact HB.out | apply ak | apply ah | apply au) | exact HB.out)) hb); clear HB; have HB := bu; clear bu; (try clear hb); (try clear hb2); (try clear hk); (try clear hi)) | ((with_reducible refine az (f := 97) rfl ?_); refine aT (some 21) rfl rfl Try.func97 (by kernel_rfl) rfl #[.int .i64 t105] rfl (by (try simp only [List.map_toArray, List.map_cons, List.map_nil]); first | done | rfl | (simp only [List.length_drop, List.length_take]; rfl)) ?_; (with_reducible refine (aV.calls t105 t108 _ A4.out).mono ?_); rintro e w' ⟨rfl, ⟨nd, rfl⟩⟩; refine ⟨_, rfl, ?_⟩) | ((with_reducible refine az (f := 97) rfl ?_); refine aT (some 23) rfl rfl Try.func97 (by kernel_rfl) rfl #[.int .i64 t106] rfl (by (try simp only [List.map_toArray, List.map_cons, List.map_nil]); first | done | rfl | (simp only [List.length_drop, List.length_take]; rfl)) ?_; (with_reducible refine (aV.calls t106 t109 _ A5.out).mono ?_); rintro e w' ⟨rfl, ⟨nd, rfl⟩⟩; refine ⟨_, rfl, ?_⟩) | ((with_reducible refine az (f := 96) rfl ?_); refine aT (some 24) rfl rfl Try.func96 (by kernel_rfl) rfl #[.int .u64 t108, .int .u64 t109] rfl (by (try simp only [List.map_toArray, List.map_cons, List.map_nil]); first | done | rfl | (simp only [List.length_drop, List.length_take]; rfl)) ?_; (with_reducible refine (bits_Mul64.calls t108 t109 t110 t111 _ A6.out).mono ?_); rintro e w' ⟨rfl, ⟨nd, rfl⟩⟩; refine ⟨_, rfl, ?_⟩) | ((with_reducible refine az (f := 98) rfl ?_); refine aT (some 57) rfl rfl Try.func98 (by kernel_rfl) rfl #[.int .u64 (t110 / 16777216), .int .u64 (Go.bits .or .u64 (t111 / 16777216) (IntKind.u64.wrap (t110 * 1099511627776))), .bool ((decide (t105 < 0)) != (decide (t106 < 0)))] rfl (by (try simp only [List.map_toArray, List.map_cons, List.map_nil]); first | done | rfl | (simp only [List.length_drop, List.length_take]; rfl)) ?_; (with_reducible refine (aO.calls (t110 / 16777216) (Go.bits .or .u64 (t111 / 16777216) (IntKind.u64.wrap (t110 * 1099511627776))) ((decide (t105 < 0)) != (decide (t106 < 0))) t118 t119 _ A28.out).mono ?_); rintro e w33 ⟨rfl, hb⟩; refine ⟨_, rfl, ?_⟩; have bu := aj.mk (aQ (by repeat (first | (with_reducible first | exact HB.out | apply ak | apply ah | apply au) | exact HB.out)) hb); clear HB; have HB := bu; clear bu; (try clear hb); (try clear hb2); (try clear hk); (try clear hi)))
       go_ret2
       exact ⟨by first | rfl | (simp [aI, aH] <;> rfl) | (simp [*, aI, aH] <;> rfl), by repeat (first | (with_reducible first | exact HB.out | apply ak | apply ah | apply au) | exact HB.out)⟩
def bits_LeadingZeros64.f (a0 : Int) : Option (Int) := if 0 ≤ a0 ∧ a0 < 18446744073709551616 then some (64 - (Lib.bitLen a0.toNat : Int)) else none
theorem bits_LeadingZeros64.calls (a0 : Int) (r : Int) (w : World) (h : bits_LeadingZeros64.f a0 = some r) :
 Calls Try.prog 121 #[.int .u64 a0] w fun e w' => e = .returned (.int .i64 r) ∧ bn w w' := by
 unfold bits_LeadingZeros64.f at h
 by_cases hb : 0 ≤ a0 ∧ a0 < 18446744073709551616
 · rw [if_pos hb] at h
   simp only [Option.some.injEq] at h
   subst h
   refine (Try.bits_LeadingZeros64 a0 w hb.1 (by omega)).mono ?_
   rintro e w' ⟨rfl, rfl⟩
   exact ⟨rfl, bn.refl _⟩
 · rw [if_neg hb] at h
   cases h
end Go.Proofs.Ytnijhjbcjeohhaa.PQ

