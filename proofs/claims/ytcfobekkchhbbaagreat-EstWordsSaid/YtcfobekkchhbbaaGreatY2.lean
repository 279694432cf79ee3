import Derived.Test.YtcfobekkchhbbaaGreatProg
import Derived.Below
import Derived.Deep.Draws
import Derived.Deep.AppendLies
import Derived.Maps.AppendAt
import Derived.OwnWalk
import Derived.Laws.BytesArg
import Derived.Laws.MakeOwn
import Derived.Laws.OwnMore
import Derived.Deep.OwnRows
import Derived.Tactics
import Derived.Lib.ConvBytes
import Derived.Laws.Slices
import Derived.WalkKit
import Derived.KernelRfl
import Derived.RowKit3
import Derived.Deep.LoopGhost
import Derived.Deep.QuietTactic
import Derived.BigQuiet
import Derived.WideLaws
import Derived.Deep.DeepCutAuto
import Derived.Deep.CutBlock
import Derived.Deep.RegionHeld3
import Derived.Laws.Rows
import Derived.Lib.AppendStr
import Derived.ArgAppend
import Derived.Laws.IdiomCopy
import Derived.OrdersHeld
import Derived.Laws.BitsLemmas
import Derived.RowKit
import Derived.Test.YtcfobekkchhbbaaGreatY0
import Derived.Test.YtcfobekkchhbbaaGreatY1
/- Joined and thinned by a program of this session's own (wip/pack2.py) out of its texts (wip/ of its repo); parts were laid by its own program (wip/print-patch.py over the kit's print) out of the translation; Lean checks all. -/
set_option maxRecDepth 100000
set_option maxHeartbeats 8000000
namespace Go.Proofs.YtcfobekkchhbbaaGreat.PQ
open Go.RowKit Go.Proofs.af.aQ Go.Proofs.af.a_ Go.Proofs.af.bg
attribute [local go_sem] iJ iH jI jH gV gU iI iG
set_option linter.unusedVariables false
set_option linter.unusedSimpArgs false
def QI : Option Int → Value
 | none => .nilIface
 | some c => .iface 0 (.int .i64 c)
theorem aU : QI none = .nilIface := rfl
theorem aT (c : Int) : QI (some c) = .iface 0 (.int .i64 c) := rfl
theorem info22 : (Tryz.prog.info? 22).map (fun i => (i.zero, i.size, i.bytes)) = some (some (.int .i64 0), 1, 8) := by kernel_rfl
end Go.Proofs.YtcfobekkchhbbaaGreat.PQ

namespace Go.Proofs.YtcfobekkchhbbaaGreat.PQ
open Go.RowKit Go.Proofs.af.aQ Go.Proofs.af.a_ Go.Proofs.af.bg
attribute [local go_sem] iJ iH jI jH gV gU iI iG
set_option linter.unusedVariables false
set_option linter.unusedSimpArgs false
theorem QM (d : Nat) (w : World) (x0 y0 : Int) (x1 y1 : Int) :
 (Op.equalIn (d + 2) 186 (.agg #[.int .i64 x0, .int .i64 x1]) (.agg #[.int .i64 y0, .int .i64 y1])).run Tryz.prog w = .ok (x0 == y0 && (x1 == y1)) w := by
 refine Xq Tryz.underlying186 (by kernel_rfl) ?_
 refine QL (by rfl) (by go_simp; rfl) (by go_simp; rfl) (by go_simp) ?_
 exact QJ (by rfl) (by go_simp; rfl) (by go_simp; rfl) (by go_simp)
end Go.Proofs.YtcfobekkchhbbaaGreat.PQ

namespace Go.Proofs.YtcfobekkchhbbaaGreat.PQ
open Go.RowKit Go.Proofs.af.aQ Go.Proofs.af.a_ Go.Proofs.af.bg
attribute [local go_sem] iJ iH jI jH gV gU iI iG
set_option linter.unusedVariables false
set_option linter.unusedSimpArgs false
def dJ.f (a0 : Int) : Option (Int × Bool) := some (mn (mx a0 (-70368744177664)) 70368744177663, ((mn (mx a0 (-70368744177664)) 70368744177663) != a0))
theorem dJ.calls (a0 : Int) (r1 : Int) (r2 : Bool) (w : World) (h : dJ.f a0 = some (r1, r2)) :
 Calls Tryz.prog 137 #[.int .i64 a0] w fun e w' => e = .returned (.tuple #[.int .i64 r1, .bool r2]) ∧ Below w.heap.size w w' := by
 have HB := aj.mk (Below.refl w.heap.size w)
 have H : (some (mn (mx a0 (-70368744177664)) 70368744177663, ((mn (mx a0 (-70368744177664)) 70368744177663) != a0))) = some (r1, r2) := h
 clear h
 obtain ⟨YA, T_⟩ : ∃ j_ : Int, (mx a0 (-70368744177664)) = j_ := ⟨_, rfl⟩
 replace H : (some (mn (YA) 70368744177663, ((mn (YA) 70368744177663) != a0))) = some (r1, r2) := by first | (rw [T_] at H; exact H) | (simp only [T_] at H ⊢; exact H)
 have ahb : (if a0 < (-70368744177664) then (-70368744177664) else a0) = YA := T_
 obtain ⟨Dn, xJ⟩ : ∃ j_ : Int, (mn (YA) 70368744177663) = j_ := ⟨_, rfl⟩
 replace H : (some (Dn, ((Dn) != a0))) = some (r1, r2) := by first | (rw [xJ] at H; exact H) | (simp only [xJ] at H ⊢; exact H)
 have ZE : (if 70368744177663 < (YA) then 70368744177663 else (YA)) = Dn := xJ
 simp only [Option.some.injEq, Prod.mk.injEq] at H
 obtain ⟨rfl, rfl⟩ := H
 go_enter Tryz.func137, Tryz.ntmps137
 go_wp2
 go_ret2
 exact ⟨by first | rfl | (simp [aU, aT] <;> rfl) | (simp only [← T_, ← xJ]; first | rfl | (simp [aU, aT] <;> rfl)) | (simp [*, aU, aT] <;> rfl), by repeat (first | (with_reducible first | exact HB.out | apply ak | apply ah | apply au) | exact HB.out)⟩
def b_.f (a0 : Int) (a1 : Int) : Option (Int × Int × Bool) := (dJ.f a0).bind fun C9 => ((dJ.f a1).bind fun uD => (if C9.2 = true then (some (C9.1, uD.1, true)) else (some (C9.1, uD.1, uD.2))))
theorem b_.calls (a0 : Int) (a1 : Int) (r1 : Int) (r2 : Int) (r3 : Bool) (w : World) (h : b_.f a0 a1 = some (r1, r2, r3)) :
 Calls Tryz.prog 146 #[.int .i64 a0, .int .i64 a1] w fun e w' => e = .returned (.tuple #[.int .i64 r1, .int .i64 r2, .bool r3]) ∧ Below w.heap.size w w' := by
 have HB := aj.mk (Below.refl w.heap.size w)
 have H : ((dJ.f a0).bind fun C9 => ((dJ.f a1).bind fun uD => (if C9.2 = true then (some (C9.1, uD.1, true)) else (some (C9.1, uD.1, uD.2))))) = some (r1, r2, r3) := h
 clear h
 replace H := Option.bind_eq_some_iff.mp H
 obtain ⟨⟨t101, t102⟩, zN, H⟩ := H
 replace H : ((dJ.f a1).bind fun uD => (if t102 = true then (some (t101, uD.1, true)) else (some (t101, uD.1, uD.2)))) = some (r1, r2, r3) := H
 have A3 := aj.mk zN
 clear zN
 replace H := Option.bind_eq_some_iff.mp H
 obtain ⟨⟨t103, t104⟩, JA, H⟩ := H
 replace H : (if t102 = true then (some (t101, t103, true)) else (some (t101, t103, t104))) = some (r1, r2, r3) := H
 have A4 := aj.mk JA
 clear JA
 by_cases c5 : t102 = true
 · subst c5
   rw [if_pos rfl] at H
   simp only [Option.some.injEq, Prod.mk.injEq] at H
   obtain ⟨rfl, rfl, rfl⟩ := H
   go_enter Tryz.func146, Tryz.ntmps146
   go_wp2_with (first | ((with_reducible refine aK (f := 137) rfl ?_); refine bC (some 11) rfl rfl Tryz.func137 (by kernel_rfl) rfl #[.int .i64 a0] rfl (by (try simp only [List.map_toArray, List.map_cons, List.map_nil]); first | done | rfl | (simp only [List.length_drop, List.length_take]; rfl)) ?_; (with_reducible refine (dJ.calls a0 t101 true _ A3.out).mono ?_); rintro e w6 ⟨rfl, hb⟩; refine ⟨_, rfl, ?_⟩; have bK := aj.mk (aV (by repeat (first | (with_reducible first | exact HB.out | apply ak | apply ah | apply au) | exact HB.out)) hb); clear HB; have HB := bK; clear bK; (try clear hb); (try clear hb2); (try clear hk); (try clear hi)) | ((with_reducible refine aK (f := 137) rfl ?_); refine bC (some 16) rfl rfl Tryz.func137 (by kernel_rfl) rfl #[.int .i64 a1] rfl (by (try simp only [List.map_toArray, List.map_cons, List.map_nil]); first | done | rfl | (simp only [List.length_drop, List.length_take]; rfl)) ?_; (with_reducible refine (dJ.calls a1 t103 t104 _ A4.out).mono ?_); rintro e w7 ⟨rfl, hb⟩; refine ⟨_, rfl, ?_⟩; have bK := aj.mk (aV (by repeat (first | (with_reducible first | exact HB.out | apply ak | apply ah | apply au) | exact HB.out)) hb); clear HB; have HB := bK; clear bK; (try clear hb); (try clear hb2); (try clear hk); (try clear hi)))
   go_ret3
   exact ⟨by first | rfl | (simp [aU, aT] <;> rfl) | (simp [*, aU, aT] <;> rfl), by repeat (first | (with_reducible first | exact HB.out | apply ak | apply ah | apply au) | exact HB.out)⟩
 · replace c5 := Bool.eq_false_iff.mpr c5
   subst c5
   have H1 : (some (t101, t103, t104)) = some (r1, r2, r3) := by rw [if_neg (show ¬ (false = true) by decide)] at H; exact H
   clear H
   have H := H1
   clear H1
   simp only [Option.some.injEq, Prod.mk.injEq] at H
   obtain ⟨rfl, rfl, rfl⟩ := H
   go_enter Tryz.func146, Tryz.ntmps146
   go_wp2_with (first | ((with_reducible refine aK (f := 137) rfl ?_); refine bC (some 11) rfl rfl Tryz.func137 (by kernel_rfl) rfl #[.int .i64 a0] rfl (by (try simp only [List.map_toArray, List.map_cons, List.map_nil]); first | done | rfl | (simp only [List.length_drop, List.length_take]; rfl)) ?_; (with_reducible refine (dJ.calls a0 t101 false _ A3.out).mono ?_); rintro e w8 ⟨rfl, hb⟩; refine ⟨_, rfl, ?_⟩; have bK := aj.mk (aV (by repeat (first | (with_reducible first | exact HB.out | apply ak | apply ah | apply au) | exact HB.out)) hb); clear HB; have HB := bK; clear bK; (try clear hb); (try clear hb2); (try clear hk); (try clear hi)) | ((with_reducible refine aK (f := 137) rfl ?_); refine bC (some 16) rfl rfl Tryz.func137 (by kernel_rfl) rfl #[.int .i64 a1] rfl (by (try simp only [List.map_toArray, List.map_cons, List.map_nil]); first | done | rfl | (simp only [List.length_drop, List.length_take]; rfl)) ?_; (with_reducible refine (dJ.calls a1 t103 t104 _ A4.out).mono ?_); rintro e w9 ⟨rfl, hb⟩; refine ⟨_, rfl, ?_⟩; have bK := aj.mk (aV (by repeat (first | (with_reducible first | exact HB.out | apply ak | apply ah | apply au) | exact HB.out)) hb); clear HB; have HB := bK; clear bK; (try clear hb); (try clear hb2); (try clear hk); (try clear hi)))
   go_ret3
   exact ⟨by first | rfl | (simp [aU, aT] <;> rfl) | (simp [*, aU, aT] <;> rfl), by repeat (first | (with_reducible first | exact HB.out | apply ak | apply ah | apply au) | exact HB.out)⟩
def bits_Mul64.f (a0 : Int) (a1 : Int) : Option (Int × Int) := if 0 ≤ a0 ∧ a0 < 18446744073709551616 ∧ 0 ≤ a1 ∧ a1 < 18446744073709551616 then some (a0 * a1 / 18446744073709551616, a0 * a1 % 18446744073709551616) else none
theorem bits_Mul64.calls (a0 : Int) (a1 : Int) (r1 : Int) (r2 : Int) (w : World) (h : bits_Mul64.f a0 a1 = some (r1, r2)) :
 Calls Tryz.prog 147 #[.int .u64 a0, .int .u64 a1] w fun e w' => e = .returned (.tuple #[.int .u64 r1, .int .u64 r2]) ∧ bY w w' := by
 unfold bits_Mul64.f at h
 by_cases hb : 0 ≤ a0 ∧ a0 < 18446744073709551616 ∧ 0 ≤ a1 ∧ a1 < 18446744073709551616
 · rw [if_pos hb] at h
   simp only [Option.some.injEq, Prod.mk.injEq] at h
   obtain ⟨rfl, rfl⟩ := h
   obtain ⟨x, rfl⟩ := Int.eq_ofNat_of_zero_le hb.1
   obtain ⟨y, rfl⟩ := Int.eq_ofNat_of_zero_le hb.2.2.1
   refine (Tryz.bits_Mul64 x y (by omega) (by omega) w).mono ?_
   rintro e w' ⟨rfl, rfl⟩
   exact ⟨by simp, bY.refl _⟩
 · rw [if_neg hb] at h
   cases h
def bF.f (a0 : Int) : Option (Int) := if a0 < 0 then (some (IntKind.u64.wrap (wrap64 (-a0)))) else (some (IntKind.u64.wrap (a0)))
theorem bF.calls (a0 : Int) (r : Int) (w : World) (h : bF.f a0 = some r) :
 Calls Tryz.prog 148 #[.int .i64 a0] w fun e w' => e = .returned (.int .u64 r) ∧ bY w w' := by
 have H : (if a0 < 0 then (some (IntKind.u64.wrap (wrap64 (-a0)))) else (some (IntKind.u64.wrap (a0)))) = some r := h
 clear h
 by_cases c2 : a0 < 0
 · rw [if_pos c2] at H
   have Xz : decide (a0 < 0) = true := decide_eq_true c2
   clear c2
   obtain rfl := Option.some.inj H
   go_enter Tryz.func148, Tryz.ntmps148
   go_wp2
   go_ret
   exact ⟨by first | rfl | (simp; done) | (simp [*]; done), by repeat (first | exact bY.refl _ | apply bY.step)⟩
 · rw [if_neg c2] at H
   have Xz : decide (a0 < 0) = false := decide_eq_false c2
   clear c2
   obtain rfl := Option.some.inj H
   go_enter Tryz.func148, Tryz.ntmps148
   go_wp2
   go_ret
   exact ⟨by first | rfl | (simp; done) | (simp [*]; done), by repeat (first | exact bY.refl _ | apply bY.step)⟩
def rM (a0 : Int) : Int := mn (mx a0 (-70368744177664)) 70368744177663
def yM (a0 : Int) : Bool := (mn (mx a0 (-70368744177664)) 70368744177663) != a0
theorem Eh (a0 : Int) (w : World) :
 Calls Tryz.prog 137 #[.int .i64 a0] w fun e w' => e = .returned (.tuple #[.int .i64 (rM a0), .bool (yM a0)]) ∧ Below w.heap.size w w' :=
 dJ.calls a0 _ _ w rfl
def pX (b : Bool) (a0 : Int) : Int := if b = true then wrap64 (-a0) else a0
theorem qW (a0 : Int) (b : Bool) (A : Addr) (w : World) (hc : w.cell? A = some (.bool b)) :
 Calls Tryz.prog 185 #[.int .i64 a0, .pointer (some A)] w fun e w' => e = .returned (.int .i64 (pX b a0)) ∧ w' = w := by
 cases b
 · go_enter Tryz.func185, Tryz.ntmps185
   go_wp2
   go_ret
   exact ⟨by simp [pX], rfl⟩
 · go_enter Tryz.func185, Tryz.ntmps185
   go_wp2
   go_ret
   exact ⟨by simp [pX], rfl⟩
theorem AU (a0 a1 : Int) (b : Bool) (w : World) (hd : ((a0 != 0) = true) ∨ ((a0 != 0) = false ∧ decide (a1 > 70368744177664) = true)) :
 Calls Tryz.prog 149 #[.int .u64 a0, .int .u64 a1, .bool b] w fun e w' => e = .returned (.tuple #[.int .i64 (rM (pX b 70368744177664)), .bool true]) ∧ Below w.heap.size w w' := by
 rcases hd with hd | ⟨hd, hd2⟩
 all_goals
  go_enter Tryz.func149, Tryz.ntmps149
  go_wp2_with (first | (go_at_call 185; refine (qW _ b _ _ (by simp)).mono ?_; rintro e w' ⟨rfl, rfl⟩) | (go_at_call 137; refine (Eh _ _).mono ?_; rintro e w' ⟨rfl, hb⟩))
  go_ret2
  exact ⟨rfl, ((Below.refl _ _).alloc (Nat.le_refl _) _).trans (hb.mono (by simp))⟩
theorem Ip (a0 a1 : Int) (b : Bool) (w : World) (hd : (a0 != 0) = false) (hd2 : decide (a1 > 70368744177664) = false) :
 Calls Tryz.prog 149 #[.int .u64 a0, .int .u64 a1, .bool b] w fun e w' => e = .returned (.tuple #[.int .i64 (rM (pX b (wrap64 a1))), .bool (yM (pX b (wrap64 a1)))]) ∧ Below w.heap.size w w' := by
 go_enter Tryz.func149, Tryz.ntmps149
 go_wp2_with (first | (go_at_call 185; refine (qW _ b _ _ (by simp)).mono ?_; rintro e w' ⟨rfl, rfl⟩) | (go_at_call 137; refine (Eh _ _).mono ?_; rintro e w' ⟨rfl, hb⟩))
 go_ret2
 exact ⟨rfl, ((Below.refl _ _).alloc (Nat.le_refl _) _).trans (hb.mono (by simp))⟩
def aX.f (a0 : Int) (a1 : Int) (a2 : Bool) : Option (Int × Bool) :=
 if a0 = 0 then (if a1 > 70368744177664 then some (rM (pX a2 70368744177664), true) else some (rM (pX a2 (wrap64 a1)), yM (pX a2 (wrap64 a1)))) else some (rM (pX a2 70368744177664), true)
theorem aX.calls (a0 : Int) (a1 : Int) (a2 : Bool) (r1 : Int) (r2 : Bool) (w : World) (h : aX.f a0 a1 a2 = some (r1, r2)) :
 Calls Tryz.prog 149 #[.int .u64 a0, .int .u64 a1, .bool a2] w fun e w' => e = .returned (.tuple #[.int .i64 r1, .bool r2]) ∧ Below w.heap.size w w' := by
 unfold aX.f at h
 by_cases h0 : a0 = 0
 · rw [if_pos h0] at h
   by_cases h1 : a1 > 70368744177664
   · rw [if_pos h1] at h
     simp only [Option.some.injEq, Prod.mk.injEq] at h
     obtain ⟨rfl, rfl⟩ := h
     exact AU a0 a1 a2 w (.inr ⟨by simp [h0], by simpa using h1⟩)
   · rw [if_neg h1] at h
     simp only [Option.some.injEq, Prod.mk.injEq] at h
     obtain ⟨rfl, rfl⟩ := h
     exact Ip a0 a1 a2 w (by simp [h0]) (by simpa using h1)
 · rw [if_neg h0] at h
   simp only [Option.some.injEq, Prod.mk.injEq] at h
   obtain ⟨rfl, rfl⟩ := h
   exact AU a0 a1 a2 w (.inl (by simp [h0]))
def tq.f (a0 : Int) (a1 : Int) : Option (Int × Bool) := (b_.f a0 a1).bind fun jc => ((bF.f jc.1).bind fun t108 => ((bF.f jc.2.1).bind fun t109 => ((bits_Mul64.f t108 t109).bind fun cu => (if (Go.bits .and .u64 cu.2 16777215) > 8388608 then ((aX.f (cu.1 / 16777216) (IntKind.u64.wrap ((Go.bits .or .u64 (cu.2 / 16777216) (IntKind.u64.wrap (cu.1 * 1099511627776))) + 1)) ((decide (jc.1 < 0)) != (decide (jc.2.1 < 0)))).bind fun kG => (if jc.2.2 = true then (some (kG.1, true)) else (some (kG.1, kG.2)))) else (if (Go.bits .and .u64 cu.2 16777215) = 8388608 then (if (Go.bits .and .u64 (Go.bits .or .u64 (cu.2 / 16777216) (IntKind.u64.wrap (cu.1 * 1099511627776))) 1) = 1 then ((aX.f (cu.1 / 16777216) (IntKind.u64.wrap ((Go.bits .or .u64 (cu.2 / 16777216) (IntKind.u64.wrap (cu.1 * 1099511627776))) + 1)) ((decide (jc.1 < 0)) != (decide (jc.2.1 < 0)))).bind fun kF => (if jc.2.2 = true then (some (kF.1, true)) else (some (kF.1, kF.2)))) else ((aX.f (cu.1 / 16777216) (Go.bits .or .u64 (cu.2 / 16777216) (IntKind.u64.wrap (cu.1 * 1099511627776))) ((decide (jc.1 < 0)) != (decide (jc.2.1 < 0)))).bind fun kE => (if jc.2.2 = true then (some (kE.1, true)) else (some (kE.1, kE.2))))) else ((aX.f (cu.1 / 16777216) (Go.bits .or .u64 (cu.2 / 16777216) (IntKind.u64.wrap (cu.1 * 1099511627776))) ((decide (jc.1 < 0)) != (decide (jc.2.1 < 0)))).bind fun kD => (if jc.2.2 = true then (some (kD.1, true)) else (some (kD.1, kD.2)))))))))
theorem tq.calls (a0 : Int) (a1 : Int) (r1 : Int) (r2 : Bool) (w : World) (h : tq.f a0 a1 = some (r1, r2)) :
 Calls Tryz.prog 92 #[.int .i64 a0, .int .i64 a1] w fun e w' => e = .returned (.tuple #[.int .i64 r1, .bool r2]) ∧ Below w.heap.size w w' := by
 have HB := aj.mk (Below.refl w.heap.size w)
 have H : ((b_.f a0 a1).bind fun jc => ((bF.f jc.1).bind fun t108 => ((bF.f jc.2.1).bind fun t109 => ((bits_Mul64.f t108 t109).bind fun cu => (if (Go.bits .and .u64 cu.2 16777215) > 8388608 then ((aX.f (cu.1 / 16777216) (IntKind.u64.wrap ((Go.bits .or .u64 (cu.2 / 16777216) (IntKind.u64.wrap (cu.1 * 1099511627776))) + 1)) ((decide (jc.1 < 0)) != (decide (jc.2.1 < 0)))).bind fun kG => (if jc.2.2 = true then (some (kG.1, true)) else (some (kG.1, kG.2)))) else (if (Go.bits .and .u64 cu.2 16777215) = 8388608 then (if (Go.bits .and .u64 (Go.bits .or .u64 (cu.2 / 16777216) (IntKind.u64.wrap (cu.1 * 1099511627776))) 1) = 1 then ((aX.f (cu.1 / 16777216) (IntKind.u64.wrap ((Go.bits .or .u64 (cu.2 / 16777216) (IntKind.u64.wrap (cu.1 * 1099511627776))) + 1)) ((decide (jc.1 < 0)) != (decide (jc.2.1 < 0)))).bind fun kF => (if jc.2.2 = true then (some (kF.1, true)) else (some (kF.1, kF.2)))) else ((aX.f (cu.1 / 16777216) (Go.bits .or .u64 (cu.2 / 16777216) (IntKind.u64.wrap (cu.1 * 1099511627776))) ((decide (jc.1 < 0)) != (decide (jc.2.1 < 0)))).bind fun kE => (if jc.2.2 = true then (some (kE.1, true)) else (some (kE.1, kE.2))))) else ((aX.f (cu.1 / 16777216) (Go.bits .or .u64 (cu.2 / 16777216) (IntKind.u64.wrap (cu.1 * 1099511627776))) ((decide (jc.1 < 0)) != (decide (jc.2.1 < 0)))).bind fun kD => (if jc.2.2 = true then (some (kD.1, true)) else (some (kD.1, kD.2)))))))))) = some (r1, r2) := h
 clear h
 replace H := Option.bind_eq_some_iff.mp H
 obtain ⟨⟨t105, t106, t107⟩, zN, H⟩ := H
 replace H : ((bF.f t105).bind fun t108 => ((bF.f t106).bind fun t109 => ((bits_Mul64.f t108 t109).bind fun cu => (if (Go.bits .and .u64 cu.2 16777215) > 8388608 then ((aX.f (cu.1 / 16777216) (IntKind.u64.wrap ((Go.bits .or .u64 (cu.2 / 16777216) (IntKind.u64.wrap (cu.1 * 1099511627776))) + 1)) ((decide (t105 < 0)) != (decide (t106 < 0)))).bind fun kG => (if t107 = true then (some (kG.1, true)) else (some (kG.1, kG.2)))) else (if (Go.bits .and .u64 cu.2 16777215) = 8388608 then (if (Go.bits .and .u64 (Go.bits .or .u64 (cu.2 / 16777216) (IntKind.u64.wrap (cu.1 * 1099511627776))) 1) = 1 then ((aX.f (cu.1 / 16777216) (IntKind.u64.wrap ((Go.bits .or .u64 (cu.2 / 16777216) (IntKind.u64.wrap (cu.1 * 1099511627776))) + 1)) ((decide (t105 < 0)) != (decide (t106 < 0)))).bind fun kF => (if t107 = true then (some (kF.1, true)) else (some (kF.1, kF.2)))) else ((aX.f (cu.1 / 16777216) (Go.bits .or .u64 (cu.2 / 16777216) (IntKind.u64.wrap (cu.1 * 1099511627776))) ((decide (t105 < 0)) != (decide (t106 < 0)))).bind fun kE => (if t107 = true then (some (kE.1, true)) else (some (kE.1, kE.2))))) else ((aX.f (cu.1 / 16777216) (Go.bits .or .u64 (cu.2 / 16777216) (IntKind.u64.wrap (cu.1 * 1099511627776))) ((decide (t105 < 0)) != (decide (t106 < 0)))).bind fun kD => (if t107 = true then (some (kD.1, true)) else (some (kD.1, kD.2))))))))) = some (r1, r2) := H
 have A3 := aj.mk zN
 clear zN
 replace H := Option.bind_eq_some_iff.mp H
 obtain ⟨t108, JA, H⟩ := H
 replace H : ((bF.f t106).bind fun t109 => ((bits_Mul64.f t108 t109).bind fun cu => (if (Go.bits .and .u64 cu.2 16777215) > 8388608 then ((aX.f (cu.1 / 16777216) (IntKind.u64.wrap ((Go.bits .or .u64 (cu.2 / 16777216) (IntKind.u64.wrap (cu.1 * 1099511627776))) + 1)) ((decide (t105 < 0)) != (decide (t106 < 0)))).bind fun kG => (if t107 = true then (some (kG.1, true)) else (some (kG.1, kG.2)))) else (if (Go.bits .and .u64 cu.2 16777215) = 8388608 then (if (Go.bits .and .u64 (Go.bits .or .u64 (cu.2 / 16777216) (IntKind.u64.wrap (cu.1 * 1099511627776))) 1) = 1 then ((aX.f (cu.1 / 16777216) (IntKind.u64.wrap ((Go.bits .or .u64 (cu.2 / 16777216) (IntKind.u64.wrap (cu.1 * 1099511627776))) + 1)) ((decide (t105 < 0)) != (decide (t106 < 0)))).bind fun kF => (if t107 = true then (some (kF.1, true)) else (some (kF.1, kF.2)))) else ((aX.f (cu.1 / 16777216) (Go.bits .or .u64 (cu.2 / 16777216) (IntKind.u64.wrap (cu.1 * 1099511627776))) ((decide (t105 < 0)) != (decide (t106 < 0)))).bind fun kE => (if t107 = true then (some (kE.1, true)) else (some (kE.1, kE.2))))) else ((aX.f (cu.1 / 16777216) (Go.bits .or .u64 (cu.2 / 16777216) (IntKind.u64.wrap (cu.1 * 1099511627776))) ((decide (t105 < 0)) != (decide (t106 < 0)))).bind fun kD => (if t107 = true then (some (kD.1, true)) else (some (kD.1, kD.2)))))))) = some (r1, r2) := H
 have A4 := aj.mk JA
 clear JA
 replace H := Option.bind_eq_some_iff.mp H
 obtain ⟨t109, Wx, H⟩ := H
 replace H : ((bits_Mul64.f t108 t109).bind fun cu => (if (Go.bits .and .u64 cu.2 16777215) > 8388608 then ((aX.f (cu.1 / 16777216) (IntKind.u64.wrap ((Go.bits .or .u64 (cu.2 / 16777216) (IntKind.u64.wrap (cu.1 * 1099511627776))) + 1)) ((decide (t105 < 0)) != (decide (t106 < 0)))).bind fun kG => (if t107 = true then (some (kG.1, true)) else (some (kG.1, kG.2)))) else (if (Go.bits .and .u64 cu.2 16777215) = 8388608 then (if (Go.bits .and .u64 (Go.bits .or .u64 (cu.2 / 16777216) (IntKind.u64.wrap (cu.1 * 1099511627776))) 1) = 1 then ((aX.f (cu.1 / 16777216) (IntKind.u64.wrap ((Go.bits .or .u64 (cu.2 / 16777216) (IntKind.u64.wrap (cu.1 * 1099511627776))) + 1)) ((decide (t105 < 0)) != (decide (t106 < 0)))).bind fun kF => (if t107 = true then (some (kF.1, true)) else (some (kF.1, kF.2)))) else ((aX.f (cu.1 / 16777216) (Go.bits .or .u64 (cu.2 / 16777216) (IntKind.u64.wrap (cu.1 * 1099511627776))) ((decide (t105 < 0)) != (decide (t106 < 0)))).bind fun kE => (if t107 = true then (some (kE.1, true)) else (some (kE.1, kE.2))))) else ((aX.f (cu.1 / 16777216) (Go.bits .or .u64 (cu.2 / 16777216) (IntKind.u64.wrap (cu.1 * 1099511627776))) ((decide (t105 < 0)) != (decide (t106 < 0)))).bind fun kD => (if t107 = true then (some (kD.1, true)) else (some (kD.1, kD.2))))))) = some (r1, r2) := H
 have A5 := aj.mk Wx
 clear Wx
 replace H := Option.bind_eq_some_iff.mp H
 obtain ⟨⟨t110, t111⟩, Wv, H⟩ := H
 replace H : (if (Go.bits .and .u64 t111 16777215) > 8388608 then ((aX.f (t110 / 16777216) (IntKind.u64.wrap ((Go.bits .or .u64 (t111 / 16777216) (IntKind.u64.wrap (t110 * 1099511627776))) + 1)) ((decide (t105 < 0)) != (decide (t106 < 0)))).bind fun kG => (if t107 = true then (some (kG.1, true)) else (some (kG.1, kG.2)))) else (if (Go.bits .and .u64 t111 16777215) = 8388608 then (if (Go.bits .and .u64 (Go.bits .or .u64 (t111 / 16777216) (IntKind.u64.wrap (t110 * 1099511627776))) 1) = 1 then ((aX.f (t110 / 16777216) (IntKind.u64.wrap ((Go.bits .or .u64 (t111 / 16777216) (IntKind.u64.wrap (t110 * 1099511627776))) + 1)) ((decide (t105 < 0)) != (decide (t106 < 0)))).bind fun kF => (if t107 = true then (some (kF.1, true)) else (some (kF.1, kF.2)))) else ((aX.f (t110 / 16777216) (Go.bits .or .u64 (t111 / 16777216) (IntKind.u64.wrap (t110 * 1099511627776))) ((decide (t105 < 0)) != (decide (t106 < 0)))).bind fun kE => (if t107 = true then (some (kE.1, true)) else (some (kE.1, kE.2))))) else ((aX.f (t110 / 16777216) (Go.bits .or .u64 (t111 / 16777216) (IntKind.u64.wrap (t110 * 1099511627776))) ((decide (t105 < 0)) != (decide (t106 < 0)))).bind fun kD => (if t107 = true then (some (kD.1, true)) else (some (kD.1, kD.2)))))) = some (r1, r2) := H
 have A6 := aj.mk Wv
 clear Wv
 by_cases c7 : (Go.bits .and .u64 t111 16777215) > 8388608
 · rw [if_pos c7] at H
   have vZ : decide (8388608 < (Go.bits .and .u64 t111 16777215)) = true := decide_eq_true c7
   clear c7
   replace H := Option.bind_eq_some_iff.mp H
   obtain ⟨⟨t112, t113⟩, A80, H⟩ := H
   replace H : (if t107 = true then (some (t112, true)) else (some (t112, t113))) = some (r1, r2) := H
   have A8 := aj.mk A80
   clear A80
   by_cases c9 : t107 = true
   · subst c9
     rw [if_pos rfl] at H
     simp only [Option.some.injEq, Prod.mk.injEq] at H
     obtain ⟨rfl, rfl⟩ := H
     go_enter Tryz.func92, Tryz.ntmps92
     go_wp2_with (first | ((with_reducible refine aK (f := 146) rfl ?_); refine bC (some 15) rfl rfl Tryz.func146 (by kernel_rfl) rfl #[.int .i64 a0, .int .i64 a1] rfl (by (try simp only [List.map_toArray, List.map_cons, List.map_nil]); first | done | rfl | (simp only [List.length_drop, List.length_take]; rfl)) ?_; (with_reducible refine (b_.calls a0 a1 t105 t106 true _ A3.out).mono ?_); rintro e w10 ⟨rfl, hb⟩; refine ⟨_, rfl, ?_⟩; have bK := aj.mk (aV (by repeat (first | (with_reducible first | exact HB.out | apply ak | apply ah | apply au) | exact HB.out)) hb); clear HB; have HB := bK; clear bK; (try clear hb); (try clear hb2); (try clear hk); (try clear hi)) | ((with_reducible refine aK (f := 148) rfl ?_); refine bC (some 21) rfl rfl Tryz.func148 (by kernel_rfl) rfl #[.int .i64 t105] rfl (by (try simp only [List.map_toArray, List.map_cons, List.map_nil]); first | done | rfl | (simp only [List.length_drop, List.length_take]; rfl)) ?_; (with_reducible refine (bF.calls t105 t108 _ A4.out).mono ?_); rintro e w' ⟨rfl, ⟨nd, rfl⟩⟩; refine ⟨_, rfl, ?_⟩) | ((with_reducible refine aK (f := 148) rfl ?_); refine bC (some 23) rfl rfl Tryz.func148 (by kernel_rfl) rfl #[.int .i64 t106] rfl (by (try simp only [List.map_toArray, List.map_cons, List.map_nil]); first | done | rfl | (simp only [List.length_drop, List.length_take]; rfl)) ?_; (with_reducible refine (bF.calls t106 t109 _ A5.out).mono ?_); rintro e w' ⟨rfl, ⟨nd, rfl⟩⟩; refine ⟨_, rfl, ?_⟩) | ((with_reducible refine aK (f := 147) rfl ?_); refine bC (some 24) rfl rfl Tryz.func147 (by kernel_rfl) rfl #[.int .u64 t108, .int .u64 t109] rfl (by (try simp only [List.map_toArray, List.map_cons, List.map_nil]); first | done | rfl | (simp only [List.length_drop, List.length_take]; rfl)) ?_; (with_reducible refine (bits_Mul64.calls t108 t109 t110 t111 _ A6.out).mono ?_); rintro e w' ⟨rfl, ⟨nd, rfl⟩⟩; refine ⟨_, rfl, ?_⟩) | ((with_reducible refine aK (f := 149) rfl ?_); refine bC (some 57) rfl rfl Tryz.func149 (by kernel_rfl) rfl #[.int .u64 (t110 / 16777216), .int .u64 (IntKind.u64.wrap ((Go.bits .or .u64 (t111 / 16777216) (IntKind.u64.wrap (t110 * 1099511627776))) + 1)), .bool ((decide (t105 < 0)) != (decide (t106 < 0)))] rfl (by (try simp only [List.map_toArray, List.map_cons, List.map_nil]); first | done | rfl | (simp only [List.length_drop, List.length_take]; rfl)) ?_; (with_reducible refine (aX.calls (t110 / 16777216) (IntKind.u64.wrap ((Go.bits .or .u64 (t111 / 16777216) (IntKind.u64.wrap (t110 * 1099511627776))) + 1)) ((decide (t105 < 0)) != (decide (t106 < 0))) t112 t113 _ A8.out).mono ?_); rintro e zQ ⟨rfl, hb⟩; refine ⟨_, rfl, ?_⟩; have bK := aj.mk (aV (by repeat (first | (with_reducible first | exact HB.out | apply ak | apply ah | apply au) | exact HB.out)) hb); clear HB; have HB := bK; clear bK; (try clear hb); (try clear hb2); (try clear hk); (try clear hi)))
     go_ret2
     exact ⟨by first | rfl | (simp [aU, aT] <;> rfl) | (simp [*, aU, aT] <;> rfl), by repeat (first | (with_reducible first | exact HB.out | apply ak | apply ah | apply au) | exact HB.out)⟩
   · replace c9 := Bool.eq_false_iff.mpr c9
     subst c9
     have H1 : (some (t112, t113)) = some (r1, r2) := by rw [if_neg (show ¬ (false = true) by decide)] at H; exact H
     clear H
     have H := H1
     clear H1
     simp only [Option.some.injEq, Prod.mk.injEq] at H
     obtain ⟨rfl, rfl⟩ := H
     go_enter Tryz.func92, Tryz.ntmps92
     go_wp2_with (first | ((with_reducible refine aK (f := 146) rfl ?_); refine bC (some 15) rfl rfl Tryz.func146 (by kernel_rfl) rfl #[.int .i64 a0, .int .i64 a1] rfl (by (try simp only [List.map_toArray, List.map_cons, List.map_nil]); first | done | rfl | (simp only [List.length_drop, List.length_take]; rfl)) ?_; (with_reducible refine (b_.calls a0 a1 t105 t106 false _ A3.out).mono ?_); rintro e w12 ⟨rfl, hb⟩; refine ⟨_, rfl, ?_⟩; have bK := aj.mk (aV (by repeat (first | (with_reducible first | exact HB.out | apply ak | apply ah | apply au) | exact HB.out)) hb); clear HB; have HB := bK; clear bK; (try clear hb); (try clear hb2); (try clear hk); (try clear hi)) | ((with_reducible refine aK (f := 148) rfl ?_); refine bC (some 21) rfl rfl Tryz.func148 (by kernel_rfl) rfl #[.int .i64 t105] rfl (by (try simp only [List.map_toArray, List.map_cons, List.map_nil]); first | done | rfl | (simp only [List.length_drop, List.length_take]; rfl)) ?_; (with_reducible refine (bF.calls t105 t108 _ A4.out).mono ?_); rintro e w' ⟨rfl, ⟨nd, rfl⟩⟩; refine ⟨_, rfl, ?_⟩) | ((with_reducible refine aK (f := 148) rfl ?_); refine bC (some 23) rfl rfl Tryz.func148 (by kernel_rfl) rfl #[.int .i64 t106] rfl (by (try simp only [List.map_toArray, List.map_cons, List.map_nil]); first | done | rfl | (simp only [List.length_drop, List.length_take]; rfl)) ?_; (with_reducible refine (bF.calls t106 t109 _ A5.out).mono ?_); rintro e w' ⟨rfl, ⟨nd, rfl⟩⟩; refine ⟨_, rfl, ?_⟩) | ((with_reducible refine aK (f := 147) rfl ?_); refine bC (some 24) rfl rfl Tryz.func147 (by kernel_rfl) rfl #[.int .u64 t108, .int .u64 t109] rfl (by (try simp only [List.map_toArray, List.map_cons, List.map_nil]); first | done | rfl | (simp only [List.length_drop, List.length_take]; rfl)) ?_; (with_reducible refine (bits_Mul64.calls t108 t109 t110 t111 _ A6.out).mono ?_); rintro e w' ⟨rfl, ⟨nd, rfl⟩⟩; refine ⟨_, rfl, ?_⟩) | ((with_reducible refine aK (f := 149) rfl ?_); refine bC (some 57) rfl rfl Tryz.func149 (by kernel_rfl) rfl #[.int .u64 (t110 / 16777216), .int .u64 (IntKind.u64.wrap ((Go.bits .or .u64 (t111 / 16777216) (IntKind.u64.wrap (t110 * 1099511627776))) + 1)), .bool ((decide (t105 < 0)) != (decide (t106 < 0)))] rfl (by (try simp only [List.map_toArray, List.map_cons, List.map_nil]); first | done | rfl | (simp only [List.length_drop, List.length_take]; rfl)) ?_; (with_reducible refine (aX.calls (t110 / 16777216) (IntKind.u64.wrap ((Go.bits .or .u64 (t111 / 16777216) (IntKind.u64.wrap (t110 * 1099511627776))) + 1)) ((decide (t105 < 0)) != (decide (t106 < 0))) t112 t113 _ A8.out).mono ?_); rintro e PL ⟨rfl, hb⟩; refine ⟨_, rfl, ?_⟩; have bK := aj.mk (aV (by repeat (first | (with_reducible first | exact HB.out | apply ak | apply ah | apply au) | exact HB.out)) hb); clear HB; have HB := bK; clear bK; (try clear hb); (try clear hb2); (try clear hk); (try clear hi)))
     go_ret2
     exact ⟨by first | rfl | (simp [aU, aT] <;> rfl) | (simp [*, aU, aT] <;> rfl), by repeat (first | (with_reducible first | exact HB.out | apply ak | apply ah | apply au) | exact HB.out)⟩
 · rw [if_neg c7] at H
   have vZ : decide (8388608 < (Go.bits .and .u64 t111 16777215)) = false := decide_eq_false c7
   clear c7
   by_cases c14 : (Go.bits .and .u64 t111 16777215) = 8388608
   · rw [if_pos c14] at H
     have n_ : ((Go.bits .and .u64 t111 16777215) == 8388608) = true := beq_iff_eq.mpr c14
     have rZ : ((Go.bits .and .u64 t111 16777215) != 8388608) = false := bne_eq_false_iff_eq.mpr c14
     clear c14
     by_cases c15 : (Go.bits .and .u64 (Go.bits .or .u64 (t111 / 16777216) (IntKind.u64.wrap (t110 * 1099511627776))) 1) = 1
     · rw [if_pos c15] at H
       have Q7 : ((Go.bits .and .u64 (Go.bits .or .u64 (t111 / 16777216) (IntKind.u64.wrap (t110 * 1099511627776))) 1) == 1) = true := beq_iff_eq.mpr c15
       have Z_ : ((Go.bits .and .u64 (Go.bits .or .u64 (t111 / 16777216) (IntKind.u64.wrap (t110 * 1099511627776))) 1) != 1) = false := bne_eq_false_iff_eq.mpr c15
       clear c15
       replace H := Option.bind_eq_some_iff.mp H
       obtain ⟨⟨t114, t115⟩, JB, H⟩ := H
       replace H : (if t107 = true then (some (t114, true)) else (some (t114, t115))) = some (r1, r2) := H
       have Nv := aj.mk JB
       clear JB
       by_cases c17 : t107 = true
       · subst c17
         rw [if_pos rfl] at H
         simp only [Option.some.injEq, Prod.mk.injEq] at H
         obtain ⟨rfl, rfl⟩ := H
         go_enter Tryz.func92, Tryz.ntmps92
         go_wp2_with (first | ((with_reducible refine aK (f := 146) rfl ?_); refine bC (some 15) rfl rfl Tryz.func146 (by kernel_rfl) rfl #[.int .i64 a0, .int .i64 a1] rfl (by (try simp only [List.map_toArray, List.map_cons, List.map_nil]); first | done | rfl | (simp only [List.length_drop, List.length_take]; rfl)) ?_; (with_reducible refine (b_.calls a0 a1 t105 t106 true _ A3.out).mono ?_); rintro e w18 ⟨rfl, hb⟩; refine ⟨_, rfl, ?_⟩; have bK := aj.mk (aV (by repeat (first | (with_reducible first | exact HB.out | apply ak | apply ah | apply au) | exact HB.out)) hb); clear HB; have HB := bK; clear bK; (try clear hb); (try clear hb2); (try clear hk); (try clear hi)) | ((with_reducible refine aK (f := 148) rfl ?_); refine bC (some 21) rfl rfl Tryz.func148 (by kernel_rfl) rfl #[.int .i64 t105] rfl (by (try simp only [List.map_toArray, List.map_cons, List.map_nil]); first | done | rfl | (simp only [List.length_drop, List.length_take]; rfl)) ?_; (with_reducible refine (bF.calls t105 t108 _ A4.out).mono ?_); rintro e w' ⟨rfl, ⟨nd, rfl⟩⟩; refine ⟨_, rfl, ?_⟩) | ((with_reducible refine aK (f := 148) rfl ?_); refine bC (some 23) rfl rfl Tryz.func148 (by kernel_rfl) rfl #[.int .i64 t106] rfl (by (try simp only [List.map_toArray, List.map_cons, List.map_nil]); first | done | rfl | (simp only [List.length_drop, List.length_take]; rfl)) ?_; (with_reducible refine (bF.calls t106 t109 _ A5.out).mono ?_); rintro e w' ⟨rfl, ⟨nd, rfl⟩⟩; refine ⟨_, rfl, ?_⟩) | ((with_reducible refine aK (f := 147) rfl ?_); refine bC (some 24) rfl rfl Tryz.func147 (by kernel_rfl) rfl #[.int .u64 t108, .int .u64 t109] rfl (by (try simp only [List.map_toArray, List.map_cons, List.map_nil]); first | done | rfl | (simp only [List.length_drop, List.length_take]; rfl)) ?_; (with_reducible refine (bits_Mul64.calls t108 t109 t110 t111 _ A6.out).mono ?_); rintro e w' ⟨rfl, ⟨nd, rfl⟩⟩; refine ⟨_, rfl, ?_⟩) | ((with_reducible refine aK (f := 149) rfl ?_); refine bC (some 57) rfl rfl Tryz.func149 (by kernel_rfl) rfl #[.int .u64 (t110 / 16777216), .int .u64 (IntKind.u64.wrap ((Go.bits .or .u64 (t111 / 16777216) (IntKind.u64.wrap (t110 * 1099511627776))) + 1)), .bool ((decide (t105 < 0)) != (decide (t106 < 0)))] rfl (by (try simp only [List.map_toArray, List.map_cons, List.map_nil]); first | done | rfl | (simp only [List.length_drop, List.length_take]; rfl)) ?_; (with_reducible refine (aX.calls (t110 / 16777216) (IntKind.u64.wrap ((Go.bits .or .u64 (t111 / 16777216) (IntKind.u64.wrap (t110 * 1099511627776))) + 1)) ((decide (t105 < 0)) != (decide (t106 < 0))) t114 t115 _ Nv.out).mono ?_); rintro e w19 ⟨rfl, hb⟩; refine ⟨_, rfl, ?_⟩; have bK := aj.mk (aV (by repeat (first | (with_reducible first | exact HB.out | apply ak | apply ah | apply au) | exact HB.out)) hb); clear HB; have HB := bK; clear bK; (try clear hb); (try clear hb2); (try clear hk); (try clear hi)))
         go_ret2
         exact ⟨by first | rfl | (simp [aU, aT] <;> rfl) | (simp [*, aU, aT] <;> rfl), by repeat (first | (with_reducible first | exact HB.out | apply ak | apply ah | apply au) | exact HB.out)⟩
       · replace c17 := Bool.eq_false_iff.mpr c17
         subst c17
         have H1 : (some (t114, t115)) = some (r1, r2) := by rw [if_neg (show ¬ (false = true) by decide)] at H; exact H
         clear H
         have H := H1
         clear H1
         simp only [Option.some.injEq, Prod.mk.injEq] at H
         obtain ⟨rfl, rfl⟩ := H
         go_enter Tryz.func92, Tryz.ntmps92
         go_wp2_with (first | ((with_reducible refine aK (f := 146) rfl ?_); refine bC (some 15) rfl rfl Tryz.func146 (by kernel_rfl) rfl #[.int .i64 a0, .int .i64 a1] rfl (by (try simp only [List.map_toArray, List.map_cons, List.map_nil]); first | done | rfl | (simp only [List.length_drop, List.length_take]; rfl)) ?_; (with_reducible refine (b_.calls a0 a1 t105 t106 false _ A3.out).mono ?_); rintro e w20 ⟨rfl, hb⟩; refine ⟨_, rfl, ?_⟩; have bK := aj.mk (aV (by repeat (first | (with_reducible first | exact HB.out | apply ak | apply ah | apply au) | exact HB.out)) hb); clear HB; have HB := bK; clear bK; (try clear hb); (try clear hb2); (try clear hk); (try clear hi)) | ((with_reducible refine aK (f := 148) rfl ?_); refine bC (some 21) rfl rfl Tryz.func148 (by kernel_rfl) rfl #[.int .i64 t105] rfl (by (try simp only [List.map_toArray, List.map_cons, List.map_nil]); first | done | rfl | (simp only [List.length_drop, List.length_take]; rfl)) ?_; (with_reducible refine (bF.calls t105 t108 _ A4.out).mono ?_); rintro e w' ⟨rfl, ⟨nd, rfl⟩⟩; refine ⟨_, rfl, ?_⟩) | ((with_reducible refine aK (f := 148) rfl ?_); refine bC (some 23) rfl rfl Tryz.func148 (by kernel_rfl) rfl #[.int .i64 t106] rfl (by (try simp only [List.map_toArray, List.map_cons, List.map_nil]); first | done | rfl | (simp only [List.length_drop, List.length_take]; rfl)) ?_; (with_reducible refine (bF.calls t106 t109 _ A5.out).mono ?_); rintro e w' ⟨rfl, ⟨nd, rfl⟩⟩; refine ⟨_, rfl, ?_⟩) | ((with_reducible refine aK (f := 147) rfl ?_); refine bC (some 24) rfl rfl Tryz.func147 (by kernel_rfl) rfl #[.int .u64 t108, .int .u64 t109] rfl (by (try simp only [List.map_toArray, List.map_cons, List.map_nil]); first | done | rfl | (simp only [List.length_drop, List.length_take]; rfl)) ?_; (with_reducible refine (bits_Mul64.calls t108 t109 t110 t111 _ A6.out).mono ?_); rintro e w' ⟨rfl, ⟨nd, rfl⟩⟩; refine ⟨_, rfl, ?_⟩) | ((with_reducible refine aK (f := 149) rfl ?_); refine bC (some 57) rfl rfl Tryz.func149 (by kernel_rfl) rfl #[.int .u64 (t110 / 16777216), .int .u64 (IntKind.u64.wrap ((Go.bits .or .u64 (t111 / 16777216) (IntKind.u64.wrap (t110 * 1099511627776))) + 1)), .bool ((decide (t105 < 0)) != (decide (t106 < 0)))] rfl (by (try simp only [List.map_toArray, List.map_cons, List.map_nil]); first | done | rfl | (simp only [List.length_drop, List.length_take]; rfl)) ?_; (with_reducible refine (aX.calls (t110 / 16777216) (IntKind.u64.wrap ((Go.bits .or .u64 (t111 / 16777216) (IntKind.u64.wrap (t110 * 1099511627776))) + 1)) ((decide (t105 < 0)) != (decide (t106 < 0))) t114 t115 _ Nv.out).mono ?_); rintro e VD ⟨rfl, hb⟩; refine ⟨_, rfl, ?_⟩; have bK := aj.mk (aV (by repeat (first | (with_reducible first | exact HB.out | apply ak | apply ah | apply au) | exact HB.out)) hb); clear HB; have HB := bK; clear bK; (try clear hb); (try clear hb2); (try clear hk); (try clear hi)))
         go_ret2
         exact ⟨by first | rfl | (simp [aU, aT] <;> rfl) | (simp [*, aU, aT] <;> rfl), by repeat (first | (with_reducible first | exact HB.out | apply ak | apply ah | apply au) | exact HB.out)⟩
     · rw [if_neg c15] at H
       have Q7 : ((Go.bits .and .u64 (Go.bits .or .u64 (t111 / 16777216) (IntKind.u64.wrap (t110 * 1099511627776))) 1) == 1) = false := beq_eq_false_iff_ne.mpr c15
       have Z_ : ((Go.bits .and .u64 (Go.bits .or .u64 (t111 / 16777216) (IntKind.u64.wrap (t110 * 1099511627776))) 1) != 1) = true := bne_iff_ne.mpr c15
       replace H := Option.bind_eq_some_iff.mp H
       obtain ⟨⟨t116, t117⟩, abT, H⟩ := H
       replace H : (if t107 = true then (some (t116, true)) else (some (t116, t117))) = some (r1, r2) := H
       have A22 := aj.mk abT
       clear abT
       by_cases c23 : t107 = true
       · subst c23
         rw [if_pos rfl] at H
         simp only [Option.some.injEq, Prod.mk.injEq] at H
         obtain ⟨rfl, rfl⟩ := H
         go_enter Tryz.func92, Tryz.ntmps92
         go_wp2_with (first | ((with_reducible refine aK (f := 146) rfl ?_); refine bC (some 15) rfl rfl Tryz.func146 (by kernel_rfl) rfl #[.int .i64 a0, .int .i64 a1] rfl (by (try simp only [List.map_toArray, List.map_cons, List.map_nil]); first | done | rfl | (simp only [List.length_drop, List.length_take]; rfl)) ?_; (with_reducible refine (b_.calls a0 a1 t105 t106 true _ A3.out).mono ?_); rintro e w24 ⟨rfl, hb⟩; refine ⟨_, rfl, ?_⟩; have bK := aj.mk (aV (by repeat (first | (with_reducible first | exact HB.out | apply ak | apply ah | apply au) | exact HB.out)) hb); clear HB; have HB := bK; clear bK; (try clear hb); (try clear hb2); (try clear hk); (try clear hi)) | ((with_reducible refine aK (f := 148) rfl ?_); refine bC (some 21) rfl rfl Tryz.func148 (by kernel_rfl) rfl #[.int .i64 t105] rfl (by (try simp only [List.map_toArray, List.map_cons, List.map_nil]); first | done | rfl | (simp only [List.length_drop, List.length_take]; rfl)) ?_; (with_reducible refine (bF.calls t105 t108 _ A4.out).mono ?_); rintro e w' ⟨rfl, ⟨nd, rfl⟩⟩; refine ⟨_, rfl, ?_⟩) | ((with_reducible refine aK (f := 148) rfl ?_); refine bC (some 23) rfl rfl Tryz.func148 (by kernel_rfl) rfl #[.int .i64 t106] rfl (by (try simp only [List.map_toArray, List.map_cons, List.map_nil]); first | done | rfl | (simp only [List.length_drop, List.length_take]; rfl)) ?_; (with_reducible refine (bF.calls t106 t109 _ A5.out).mono ?_); rintro e w' ⟨rfl, ⟨nd, rfl⟩⟩; refine ⟨_, rfl, ?_⟩) | ((with_reducible refine aK (f := 147) rfl ?_); refine bC (some 24) rfl rfl Tryz.func147 (by kernel_rfl) rfl #[.int .u64 t108, .int .u64 t109] rfl (by (try simp only [List.map_toArray, List.map_cons, List.map_nil]); first | done | rfl | (simp only [List.length_drop, List.length_take]; rfl)) ?_; (with_reducible refine (bits_Mul64.calls t108 t109 t110 t111 _ A6.out).mono ?_); rintro e w' ⟨rfl, ⟨nd, rfl⟩⟩; refine ⟨_, rfl, ?_⟩) | ((with_reducible refine aK (f := 149) rfl ?_); refine bC (some 57) rfl rfl Tryz.func149 (by kernel_rfl) rfl #[.int .u64 (t110 / 16777216), .int .u64 (Go.bits .or .u64 (t111 / 16777216) (IntKind.u64.wrap (t110 * 1099511627776))), .bool ((decide (t105 < 0)) != (decide (t106 < 0)))] rfl (by (try simp only [List.map_toArray, List.map_cons, List.map_nil]); first | done | rfl | (simp only [List.length_drop, List.length_take]; rfl)) ?_; (with_reducible refine (aX.calls (t110 / 16777216) (Go.bits .or .u64 (t111 / 16777216) (IntKind.u64.wrap (t110 * 1099511627776))) ((decide (t105 < 0)) != (decide (t106 < 0))) t116 t117 _ A22.out).mono ?_); rintro e w25 ⟨rfl, hb⟩; refine ⟨_, rfl, ?_⟩; have bK := aj.mk (aV (by repeat (first | (with_reducible first | exact HB.out | apply ak | apply ah | apply au) | exact HB.out)) hb); clear HB; have HB := bK; clear bK; (try clear hb); (try clear hb2); (try clear hk); (try clear hi)))
         go_ret2
         exact ⟨by first | rfl | (simp [aU, aT] <;> rfl) | (simp [*, aU, aT] <;> rfl), by repeat (first | (with_reducible first | exact HB.out | apply ak | apply ah | apply au) | exact HB.out)⟩
       · replace c23 := Bool.eq_false_iff.mpr c23
         subst c23
         have H1 : (some (t116, t117)) = some (r1, r2) := by rw [if_neg (show ¬ (false = true) by decide)] at H; exact H
         clear H
         have H := H1
         clear H1
         simp only [Option.some.injEq, Prod.mk.injEq] at H
         obtain ⟨rfl, rfl⟩ := H
         go_enter Tryz.func92, Tryz.ntmps92
         go_wp2_with (first | ((with_reducible refine aK (f := 146) rfl ?_); refine bC (some 15) rfl rfl Tryz.func146 (by kernel_rfl) rfl #[.int .i64 a0, .int .i64 a1] rfl (by (try simp only [List.map_toArray, List.map_cons, List.map_nil]); first | done | rfl | (simp only [List.length_drop, List.length_take]; rfl)) ?_; (with_reducible refine (b_.calls a0 a1 t105 t106 false _ A3.out).mono ?_); rintro e Yx ⟨rfl, hb⟩; refine ⟨_, rfl, ?_⟩; have bK := aj.mk (aV (by repeat (first | (with_reducible first | exact HB.out | apply ak | apply ah | apply au) | exact HB.out)) hb); clear HB; have HB := bK; clear bK; (try clear hb); (try clear hb2); (try clear hk); (try clear hi)) | ((with_reducible refine aK (f := 148) rfl ?_); refine bC (some 21) rfl rfl Tryz.func148 (by kernel_rfl) rfl #[.int .i64 t105] rfl (by (try simp only [List.map_toArray, List.map_cons, List.map_nil]); first | done | rfl | (simp only [List.length_drop, List.length_take]; rfl)) ?_; (with_reducible refine (bF.calls t105 t108 _ A4.out).mono ?_); rintro e w' ⟨rfl, ⟨nd, rfl⟩⟩; refine ⟨_, rfl, ?_⟩) | ((with_reducible refine aK (f := 148) rfl ?_); refine bC (some 23) rfl rfl Tryz.func148 (by kernel_rfl) rfl #[.int .i64 t106] rfl (by (try simp only [List.map_toArray, List.map_cons, List.map_nil]); first | done | rfl | (simp only [List.length_drop, List.length_take]; rfl)) ?_; (with_reducible refine (bF.calls t106 t109 _ A5.out).mono ?_); rintro e w' ⟨rfl, ⟨nd, rfl⟩⟩; refine ⟨_, rfl, ?_⟩) | ((with_reducible refine aK (f := 147) rfl ?_); refine bC (some 24) rfl rfl Tryz.func147 (by kernel_rfl) rfl #[.int .u64 t108, .int .u64 t109] rfl (by (try simp only [List.map_toArray, List.map_cons, List.map_nil]); first | done | rfl | (simp only [List.length_drop, List.length_take]; rfl)) ?_; (with_reducible refine (bits_Mul64.calls t108 t109 t110 t111 _ A6.out).mono ?_); rintro e w' ⟨rfl, ⟨nd, rfl⟩⟩; refine ⟨_, rfl, ?_⟩) | ((with_reducible refine aK (f := 149) rfl ?_); refine bC (some 57) rfl rfl Tryz.func149 (by kernel_rfl) rfl #[.int .u64 (t110 / 16777216), .int .u64 (Go.bits .or .u64 (t111 / 16777216) (IntKind.u64.wrap (t110 * 1099511627776))), .bool ((decide (t105 < 0)) != (decide (t106 < 0)))] rfl (by (try simp only [List.map_toArray, List.map_cons, List.map_nil]); first | done | rfl | (simp only [List.length_drop, List.length_take]; rfl)) ?_; (with_reducible refine (aX.calls (t110 / 16777216) (Go.bits .or .u64 (t111 / 16777216) (IntKind.u64.wrap (t110 * 1099511627776))) ((decide (t105 < 0)) != (decide (t106 < 0))) t116 t117 _ A22.out).mono ?_); rintro e Yw ⟨rfl, hb⟩; refine ⟨_, rfl, ?_⟩; have bK := aj.mk (aV (by repeat (first | (with_reducible first | exact HB.out | apply ak | apply ah | apply au) | exact HB.out)) hb); clear HB; have HB := bK; clear bK; (try clear hb); (try clear hb2); (try clear hk); (try clear hi)))
         go_ret2
         exact ⟨by first | rfl | (simp [aU, aT] <;> rfl) | (simp [*, aU, aT] <;> rfl), by repeat (first | (with_reducible first | exact HB.out | apply ak | apply ah | apply au) | exact HB.out)⟩
   · rw [if_neg c14] at H
     have n_ : ((Go.bits .and .u64 t111 16777215) == 8388608) = false := beq_eq_false_iff_ne.mpr c14
     have rZ : ((Go.bits .and .u64 t111 16777215) != 8388608) = true := bne_iff_ne.mpr c14
     replace H := Option.bind_eq_some_iff.mp H
     obtain ⟨⟨t118, t119⟩, abR, H⟩ := H
     replace H : (if t107 = true then (some (t118, true)) else (some (t118, t119))) = some (r1, r2) := H
     have A28 := aj.mk abR
     clear abR
     by_cases c29 : t107 = true
     · subst c29
       rw [if_pos rfl] at H
       simp only [Option.some.injEq, Prod.mk.injEq] at H
       obtain ⟨rfl, rfl⟩ := H
       go_enter Tryz.func92, Tryz.ntmps92
       go_wp2_with (first | ((with_reducible refine aK (f := 146) rfl ?_); refine bC (some 15) rfl rfl Tryz.func146 (by kernel_rfl) rfl #[.int .i64 a0, .int .i64 a1] rfl (by (try simp only [List.map_toArray, List.map_cons, List.map_nil]); first | done | rfl | (simp only [List.length_drop, List.length_take]; rfl)) ?_; (with_reducible refine (b_.calls a0 a1 t105 t106 true _ A3.out).mono ?_); rintro e w30 ⟨rfl, hb⟩; refine ⟨_, rfl, ?_⟩; have bK := aj.mk (aV (by repeat (first | (with_reducible first | exact HB.out | apply ak | apply ah | apply au) | exact HB.out)) hb); clear HB; have HB := bK; clear bK; (try clear hb); (try clear hb2); (try clear hk); (try clear hi)) | ((with_reducible refine aK (f := 148) rfl ?_); refine bC (some 21) rfl rfl Tryz.func148 (by kernel_rfl) rfl #[.int .i64 t105] rfl (by (try simp only [List.map_toArray, List.map_cons, List.map_nil]); first | done | rfl | (simp only [List.length_drop, List.length_take]; rfl)) ?_; (with_reducible refine (bF.calls t105 t108 _ A4.out).mono ?_); rintro e w' ⟨rfl, ⟨nd, rfl⟩⟩; refine ⟨_, rfl, ?_⟩) | ((with_reducible refine aK (f := 148) rfl ?_); refine bC (some 23) rfl rfl Tryz.func148 (by kernel_rfl) rfl #[.int .i64 t106] rfl (by (try simp only [List.map_toArray, List.map_cons, List.map_nil]); first | done | rfl | (simp only [List.length_drop, List.length_take]; rfl)) ?_; (with_reducible refine (bF.calls t106 t109 _ A5.out).mono ?_); rintro e w' ⟨rfl, ⟨nd, rfl⟩⟩; refine ⟨_, rfl, ?_⟩) | ((with_reducible refine aK (f := 147) rfl ?_); refine bC (some 24) rfl rfl Tryz.func147 (by kernel_rfl) rfl #[.int .u64 t108, .int .u64 t109] rfl (by (try simp only [List.map_toArray, List.map_cons, List.map_nil]); first | done | rfl | (simp only [List.length_drop, List.length_take]; rfl)) ?_; (with_reducible refine (bits_Mul64.calls t108 t109 t110 t111 _ A6.out).mono ?_); rintro e w' ⟨rfl, ⟨nd, rfl⟩⟩; refine ⟨_, rfl, ?_⟩) | ((with_reducible refine aK (f := 149) rfl ?_); refine bC (some 57) rfl rfl Tryz.func149 (by kernel_rfl) rfl #[.int .u64 (t110 / 16777216), .int .u64 (Go.bits .or .u64 (t111 / 16777216) (IntKind.u64.wrap (t110 * 1099511627776))), .bool ((decide (t105 < 0)) != (decide (t106 < 0)))] rfl (by (try simp only [List.map_toArray, List.map_cons, List.map_nil]); first | done | rfl | (simp only [List.length_drop, List.length_take]; rfl)) ?_; (with_reducible refine (aX.calls (t110 / 16777216) (Go.bits .or .u64 (t111 / 16777216) (IntKind.u64.wrap (t110 * 1099511627776))) ((decide (t105 < 0)) != (decide (t106 < 0))) t118 t119 _ A28.out).mono ?_); rintro e w31 ⟨rfl, hb⟩; refine ⟨_, rfl, ?_⟩; have bK := aj.mk (aV (by repeat (first | (with_reducible first | exact HB.out | apply ak | apply ah | apply au) | exact HB.out)) hb); clear HB; have HB := bK; clear bK; (try clear hb); (try clear hb2); (try clear hk); (try clear hi)))
       go_ret2
       exact ⟨by first | rfl | (simp [aU, aT] <;> rfl) | (simp [*, aU, aT] <;> rfl), by repeat (first | (with_reducible first | exact HB.out | apply ak | apply ah | apply au) | exact HB.out)⟩
     · replace c29 := Bool.eq_false_iff.mpr c29
       subst c29
       have H1 : (some (t118, t119)) = some (r1, r2) := by rw [if_neg (show ¬ (false = true) by decide)] at H; exact H
       clear H
       have H := H1
       clear H1
       simp only [Option.some.injEq, Prod.mk.injEq] at H
       obtain ⟨rfl, rfl⟩ := H
       go_enter Tryz.func92, Tryz.ntmps92
       go_wp2_with (first | ((with_reducible refine aK (f := 146) rfl ?_); refine bC (some 15) rfl rfl Tryz.func146 (by kernel_rfl) rfl #[.int .i64 a0, .int .i64 a1] rfl (by (try simp only [List.map_toArray, List.map_cons, List.map_nil]); first | done | rfl | (simp only [List.length_drop, List.length_take]; rfl)) ?_; (with_reducible refine (b_.calls a0 a1 t105 t106 false _ A3.out).mono ?_); rintro e w32 ⟨rfl, hb⟩; refine ⟨_, rfl, ?_⟩; have bK := aj.mk (aV (by repeat (first | (with_reducible first | exact HB.out | apply ak | apply ah | apply au) | exact HB.out)) hb); clear HB; have HB := bK; clear bK; (try clear hb); (try clear hb2); (try clear hk); (try clear hi)) | ((with_reducible refine aK (f := 148) rfl ?_); refine bC (some 21) rfl rfl Tryz.func148 (by kernel_rfl) rfl #[.int .i64 t105] rfl (by (try simp only [List.map_toArray, List.map_cons, List.map_nil]); first | done | rfl | (simp only [List.length_drop, List.length_take]; rfl)) ?_; (with_reducible refine (bF.calls t105 t108 _ A4.out).mono ?_); rintro e w' ⟨rfl, ⟨nd, rfl⟩⟩; refine ⟨_, rfl, ?_⟩) | ((with_reducible refine aK (f := 148) rfl ?_); refine bC (some 23) rfl rfl Tryz.func148 (by kernel_rfl) rfl #[.int .i64 t106] rfl (by (try simp only [List.map_toArray, List.map_cons, List.map_nil]); first | done | rfl | (simp only [List.length_drop, List.length_take]; rfl)) ?_; (with_reducible refine (bF.calls t106 t109 _ A5.out).mono ?_); rintro e w' ⟨rfl, ⟨nd, rfl⟩⟩; refine ⟨_, rfl, ?_⟩) | ((with_reducible refine aK (f := 147) rfl ?_); refine bC (some 24) rfl rfl Tryz.func147 (by kernel_rfl) rfl #[.int .u64 t108, .int .u64 t109] rfl (by (try simp only [List.map_toArray, List.map_cons, List.map_nil]); first | done | rfl | (simp only [List.length_drop, List.length_take]; rfl)) ?_; (with_reducible refine (bits_Mul64.calls t108 t109 t110 t111 _ A6.out).mono ?_); rintro e w' ⟨rfl, ⟨nd, rfl⟩⟩; refine ⟨_, rfl, ?_⟩) | ((with_reducible refine aK (f := 149) rfl ?_); refine bC (some 57) rfl rfl Tryz.func149 (by kernel_rfl) rfl #[.int .u64 (t110 / 16777216), .int .u64 (Go.bits .or .u64 (t111 / 16777216) (IntKind.u64.wrap (t110 * 1099511627776))), .bool ((decide (t105 < 0)) != (decide (t106 < 0)))] rfl (by (try simp only [List.map_toArray, List.map_cons, List.map_nil]); first | done | rfl | (simp only [List.length_drop, List.length_take]; rfl)) ?_; (with_reducible refine (aX.calls (t110 / 16777216) (Go.bits .or .u64 (t111 / 16777216) (IntKind.u64.wrap (t110 * 1099511627776))) ((decide (t105 < 0)) != (decide (t106 < 0))) t118 t119 _ A28.out).mono ?_); rintro e w33 ⟨rfl, hb⟩; refine ⟨_, rfl, ?_⟩; have bK := aj.mk (aV (by repeat (first | (with_reducible first | exact HB.out | apply ak | apply ah | apply au) | exact HB.out)) hb); clear HB; have HB := bK; clear bK; (try clear hb); (try clear hb2); (try clear hk); (try clear hi)))
       go_ret2
       exact ⟨by first | rfl | (simp [aU, aT] <;> rfl) | (simp [*, aU, aT] <;> rfl), by repeat (first | (with_reducible first | exact HB.out | apply ak | apply ah | apply au) | exact HB.out)⟩
def bits_LeadingZeros64.f (a0 : Int) : Option (Int) := if 0 ≤ a0 ∧ a0 < 18446744073709551616 then some (64 - (Lib.bitLen a0.toNat : Int)) else none
theorem bits_LeadingZeros64.calls (a0 : Int) (r : Int) (w : World) (h : bits_LeadingZeros64.f a0 = some r) :
 Calls Tryz.prog 199 #[.int .u64 a0] w fun e w' => e = .returned (.int .i64 r) ∧ bY w w' := by
 unfold bits_LeadingZeros64.f at h
 by_cases hb : 0 ≤ a0 ∧ a0 < 18446744073709551616
 · rw [if_pos hb] at h
   simp only [Option.some.injEq] at h
   subst h
   refine (Tryz.bits_LeadingZeros64 a0 w hb.1 (by omega)).mono ?_
   rintro e w' ⟨rfl, rfl⟩
   exact ⟨rfl, bY.refl _⟩
 · rw [if_neg hb] at h
   cases h
end Go.Proofs.YtcfobekkchhbbaaGreat.PQ

