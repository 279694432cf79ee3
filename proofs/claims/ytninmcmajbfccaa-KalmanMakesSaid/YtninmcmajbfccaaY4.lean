import Derived.Test.YtninmcmajbfccaaY2
import Derived.Test.YtninmcmajbfccaaY3
import Derived.Test.YtninmcmajbfccaaY1
import Derived.Below
import Derived.Deep.Draws
import Derived.Deep.AppendLies
import Derived.Maps.AppendAt
import Derived.OwnWalk
import Derived.ArgAppend
import Derived.Laws.OwnMore
import Derived.Deep.OwnRows
import Derived.Tactics
import Derived.Laws.Slices
import Derived.WalkKit
import Derived.KernelRfl
import Derived.RowKit3
import Derived.Deep.LoopGhost
import Derived.Deep.QuietTactic
import Derived.WideLaws
import Derived.Deep.RegionHeld3
import Derived.Deep.RegionLaw
import Derived.Laws.Rows
import Derived.RowKit
import Derived.LoopTactic
import Derived.Lib.Hide
import Derived.Laws.AppendOwn
import Derived.IntWalk
/- Joined and thinned by a program of this session's own (wip/pack2.py) out of its texts (wip/ of its repo); parts were laid by its own program (wip/print-patch.py over the kit's print) out of the translation; Lean checks all. -/
set_option maxRecDepth 100000
set_option maxHeartbeats 8000000
namespace Go.Proofs.Ytninmcmajbfccaa.PQ
open Go.RowKit Go.Proofs.aH.bK Go.Proofs.aH.dG Go.Proofs.aH.dJ
attribute [local go_sem] jS jQ kT kS ji jh jR jP
set_option linter.unusedVariables false
set_option linter.unusedSimpArgs false
mutual
def bC.j2 : Nat → Int → Int → Int → Int → Int → Int → Int → Int → Option (Int × Int)
 | 0, _, _, _, _, _, _, _, _ => none
 | k + 1, x2, x8, x9, x10, x11, Ho, x14, x15 => if x9 = 0 then (none) else (bC.l1 k x2 x8 x9 x10 x14 x15 (IntKind.u64.wrap ((IntKind.u64.wrap ((IntKind.u64.wrap ((IntKind.u64.wrap (x11 * 4294967296)) + Ho)) - (IntKind.u64.wrap (x15 * x2)))) - (IntKind.u64.wrap ((IntKind.u64.wrap (Int.tdiv (IntKind.u64.wrap ((IntKind.u64.wrap ((IntKind.u64.wrap (x11 * 4294967296)) + Ho)) - (IntKind.u64.wrap (x15 * x2)))) x9)) * x9)))) (IntKind.u64.wrap ((IntKind.u64.wrap ((IntKind.u64.wrap (x11 * 4294967296)) + Ho)) - (IntKind.u64.wrap (x15 * x2)))) (IntKind.u64.wrap (Int.tdiv (IntKind.u64.wrap ((IntKind.u64.wrap ((IntKind.u64.wrap (x11 * 4294967296)) + Ho)) - (IntKind.u64.wrap (x15 * x2)))) x9)))
def bC.l1 : Nat → Int → Int → Int → Int → Int → Int → Int → Int → Int → Option (Int × Int)
 | 0, _, _, _, _, _, _, _, _, _ => none
 | k + 1, x2, x8, x9, x10, x14, x15, x16, x17, x18 => if x18 ≥ 4294967296 then (bC.j4 k x2 x8 x9 x10 x14 x15 x16 x17 x18 true) else (bC.j4 k x2 x8 x9 x10 x14 x15 x16 x17 x18 (decide ((IntKind.u64.wrap (x18 * x10)) > (IntKind.u64.wrap ((IntKind.u64.wrap (4294967296 * x16)) + x14)))))
def bC.j4 : Nat → Int → Int → Int → Int → Int → Int → Int → Int → Int → Bool → Option (Int × Int)
 | 0, _, _, _, _, _, _, _, _, _, _ => none
 | k + 1, x2, x8, x9, x10, x14, x15, x16, x17, x18, x113 => if x113 = true then (if (IntKind.u64.wrap (x16 + x9)) ≥ 4294967296 then (if 0 ≤ x8 then (some (IntKind.u64.wrap ((IntKind.u64.wrap (x15 * 4294967296)) + (IntKind.u64.wrap (x18 - 1))), shr .u64 (IntKind.u64.wrap ((IntKind.u64.wrap ((IntKind.u64.wrap (x17 * 4294967296)) + x14)) - (IntKind.u64.wrap ((IntKind.u64.wrap (x18 - 1)) * x2)))) x8)) else (none)) else (bC.l1 k x2 x8 x9 x10 x14 x15 (IntKind.u64.wrap (x16 + x9)) x17 (IntKind.u64.wrap (x18 - 1)))) else (if 0 ≤ x8 then (some (IntKind.u64.wrap ((IntKind.u64.wrap (x15 * 4294967296)) + x18), shr .u64 (IntKind.u64.wrap ((IntKind.u64.wrap ((IntKind.u64.wrap (x17 * 4294967296)) + x14)) - (IntKind.u64.wrap (x18 * x2)))) x8)) else (none))
def bC.l0 : Nat → Int → Int → Int → Int → Int → Int → Int → Int → Int → Option (Int × Int)
 | 0, _, _, _, _, _, _, _, _, _ => none
 | k + 1, x2, x8, x9, x10, x11, Ho, x14, x15, x16 => if x15 ≥ 4294967296 then (bC.j1 k x2 x8 x9 x10 x11 Ho x14 x15 x16 true) else (bC.j1 k x2 x8 x9 x10 x11 Ho x14 x15 x16 (decide ((IntKind.u64.wrap (x15 * x10)) > (IntKind.u64.wrap ((IntKind.u64.wrap (4294967296 * x16)) + Ho)))))
def bC.j1 : Nat → Int → Int → Int → Int → Int → Int → Int → Int → Int → Bool → Option (Int × Int)
 | 0, _, _, _, _, _, _, _, _, _, _ => none
 | k + 1, x2, x8, x9, x10, x11, Ho, x14, x15, x16, x78 => if x78 = true then (if (IntKind.u64.wrap (x16 + x9)) ≥ 4294967296 then (bC.j2 k x2 x8 x9 x10 x11 Ho x14 (IntKind.u64.wrap (x15 - 1))) else (bC.l0 k x2 x8 x9 x10 x11 Ho x14 (IntKind.u64.wrap (x15 - 1)) (IntKind.u64.wrap (x16 + x9)))) else (bC.j2 k x2 x8 x9 x10 x11 Ho x14 x15)
end
def bC.f (k : Nat) (a0 : Int) (a1 : Int) (a2 : Int) : Option (Int × Int) := if a2 = 0 then (none) else (if a2 ≤ a0 then (none) else (if a0 = 0 then (some (IntKind.u64.wrap (Int.tdiv a1 a2), Int.tmod a1 a2)) else ((bits_LeadingZeros64.f a2).bind fun t165 => (if 0 ≤ (IntKind.u64.wrap (t165)) then (if 0 ≤ (IntKind.u64.wrap (64 - (IntKind.u64.wrap (t165)))) then (if ((shl .u64 a2 (IntKind.u64.wrap (t165))) / 4294967296) = 0 then (none) else (bC.l0 k (shl .u64 a2 (IntKind.u64.wrap (t165))) (IntKind.u64.wrap (t165)) ((shl .u64 a2 (IntKind.u64.wrap (t165))) / 4294967296) (Go.bits .and .u64 (shl .u64 a2 (IntKind.u64.wrap (t165))) 4294967295) (Go.bits .or .u64 (shl .u64 a0 (IntKind.u64.wrap (t165))) (shr .u64 a1 (IntKind.u64.wrap (64 - (IntKind.u64.wrap (t165)))))) ((shl .u64 a1 (IntKind.u64.wrap (t165))) / 4294967296) (Go.bits .and .u64 (shl .u64 a1 (IntKind.u64.wrap (t165))) 4294967295) (IntKind.u64.wrap (Int.tdiv (Go.bits .or .u64 (shl .u64 a0 (IntKind.u64.wrap (t165))) (shr .u64 a1 (IntKind.u64.wrap (64 - (IntKind.u64.wrap (t165)))))) ((shl .u64 a2 (IntKind.u64.wrap (t165))) / 4294967296))) (IntKind.u64.wrap ((Go.bits .or .u64 (shl .u64 a0 (IntKind.u64.wrap (t165))) (shr .u64 a1 (IntKind.u64.wrap (64 - (IntKind.u64.wrap (t165)))))) - (IntKind.u64.wrap ((IntKind.u64.wrap (Int.tdiv (Go.bits .or .u64 (shl .u64 a0 (IntKind.u64.wrap (t165))) (shr .u64 a1 (IntKind.u64.wrap (64 - (IntKind.u64.wrap (t165)))))) ((shl .u64 a2 (IntKind.u64.wrap (t165))) / 4294967296))) * ((shl .u64 a2 (IntKind.u64.wrap (t165))) / 4294967296))))))) else (none)) else (none)))))
theorem bC.calls (k : Nat) (a0 : Int) (a1 : Int) (a2 : Int) (r1 : Int) (r2 : Int) (w : World) (h : bC.f k a0 a1 a2 = some (r1, r2)) :
 Calls Try.prog 88 #[.int .u64 a0, .int .u64 a1, .int .u64 a2] w fun e w' => e = .returned (.tuple #[.int .u64 r1, .int .u64 r2]) ∧ dK w w' := by
 have H : (if a2 = 0 then (none) else (if a2 ≤ a0 then (none) else (if a0 = 0 then (some (IntKind.u64.wrap (Int.tdiv a1 a2), Int.tmod a1 a2)) else ((bits_LeadingZeros64.f a2).bind fun t165 => (if 0 ≤ (IntKind.u64.wrap (t165)) then (if 0 ≤ (IntKind.u64.wrap (64 - (IntKind.u64.wrap (t165)))) then (if ((shl .u64 a2 (IntKind.u64.wrap (t165))) / 4294967296) = 0 then (none) else (bC.l0 k (shl .u64 a2 (IntKind.u64.wrap (t165))) (IntKind.u64.wrap (t165)) ((shl .u64 a2 (IntKind.u64.wrap (t165))) / 4294967296) (Go.bits .and .u64 (shl .u64 a2 (IntKind.u64.wrap (t165))) 4294967295) (Go.bits .or .u64 (shl .u64 a0 (IntKind.u64.wrap (t165))) (shr .u64 a1 (IntKind.u64.wrap (64 - (IntKind.u64.wrap (t165)))))) ((shl .u64 a1 (IntKind.u64.wrap (t165))) / 4294967296) (Go.bits .and .u64 (shl .u64 a1 (IntKind.u64.wrap (t165))) 4294967295) (IntKind.u64.wrap (Int.tdiv (Go.bits .or .u64 (shl .u64 a0 (IntKind.u64.wrap (t165))) (shr .u64 a1 (IntKind.u64.wrap (64 - (IntKind.u64.wrap (t165)))))) ((shl .u64 a2 (IntKind.u64.wrap (t165))) / 4294967296))) (IntKind.u64.wrap ((Go.bits .or .u64 (shl .u64 a0 (IntKind.u64.wrap (t165))) (shr .u64 a1 (IntKind.u64.wrap (64 - (IntKind.u64.wrap (t165)))))) - (IntKind.u64.wrap ((IntKind.u64.wrap (Int.tdiv (Go.bits .or .u64 (shl .u64 a0 (IntKind.u64.wrap (t165))) (shr .u64 a1 (IntKind.u64.wrap (64 - (IntKind.u64.wrap (t165)))))) ((shl .u64 a2 (IntKind.u64.wrap (t165))) / 4294967296))) * ((shl .u64 a2 (IntKind.u64.wrap (t165))) / 4294967296))))))) else (none)) else (none)))))) = some (r1, r2) := h
 clear h
 by_cases c4 : a2 = 0
 · rw [if_pos c4] at H
   exact absurd H (by simp)
 · rw [if_neg c4] at H
   have ru : (a2 == 0) = false := beq_eq_false_iff_ne.mpr c4
   have Gn : (a2 != 0) = true := bne_iff_ne.mpr c4
   by_cases c5 : a2 ≤ a0
   · rw [if_pos c5] at H
     exact absurd H (by simp)
   · rw [if_neg c5] at H
     have uT : decide (a2 ≤ a0) = false := decide_eq_false c5
     clear c5
     by_cases c6 : a0 = 0
     · rw [if_pos c6] at H
       have wC : (a0 == 0) = true := beq_iff_eq.mpr c6
       have Hl : (a0 != 0) = false := bne_eq_false_iff_eq.mpr c6
       clear c6
       simp only [Option.some.injEq, Prod.mk.injEq] at H
       obtain ⟨rfl, rfl⟩ := H
       go_enter Try.func88, Try.ntmps88
       go_wp2
       repeat (go_quiet (fail); try go_wp2)
       go_ret2
       exact ⟨by first | rfl | (simp; done) | (simp [*]; done), by repeat (first | exact dK.refl _ | apply dK.step)⟩
     · rw [if_neg c6] at H
       have wC : (a0 == 0) = false := beq_eq_false_iff_ne.mpr c6
       have Hl : (a0 != 0) = true := bne_iff_ne.mpr c6
       replace H := Option.bind_eq_some_iff.mp H
       obtain ⟨t165, UZ, H⟩ := H
       replace H : (if 0 ≤ (IntKind.u64.wrap (t165)) then (if 0 ≤ (IntKind.u64.wrap (64 - (IntKind.u64.wrap (t165)))) then (if ((shl .u64 a2 (IntKind.u64.wrap (t165))) / 4294967296) = 0 then (none) else (bC.l0 k (shl .u64 a2 (IntKind.u64.wrap (t165))) (IntKind.u64.wrap (t165)) ((shl .u64 a2 (IntKind.u64.wrap (t165))) / 4294967296) (Go.bits .and .u64 (shl .u64 a2 (IntKind.u64.wrap (t165))) 4294967295) (Go.bits .or .u64 (shl .u64 a0 (IntKind.u64.wrap (t165))) (shr .u64 a1 (IntKind.u64.wrap (64 - (IntKind.u64.wrap (t165)))))) ((shl .u64 a1 (IntKind.u64.wrap (t165))) / 4294967296) (Go.bits .and .u64 (shl .u64 a1 (IntKind.u64.wrap (t165))) 4294967295) (IntKind.u64.wrap (Int.tdiv (Go.bits .or .u64 (shl .u64 a0 (IntKind.u64.wrap (t165))) (shr .u64 a1 (IntKind.u64.wrap (64 - (IntKind.u64.wrap (t165)))))) ((shl .u64 a2 (IntKind.u64.wrap (t165))) / 4294967296))) (IntKind.u64.wrap ((Go.bits .or .u64 (shl .u64 a0 (IntKind.u64.wrap (t165))) (shr .u64 a1 (IntKind.u64.wrap (64 - (IntKind.u64.wrap (t165)))))) - (IntKind.u64.wrap ((IntKind.u64.wrap (Int.tdiv (Go.bits .or .u64 (shl .u64 a0 (IntKind.u64.wrap (t165))) (shr .u64 a1 (IntKind.u64.wrap (64 - (IntKind.u64.wrap (t165)))))) ((shl .u64 a2 (IntKind.u64.wrap (t165))) / 4294967296))) * ((shl .u64 a2 (IntKind.u64.wrap (t165))) / 4294967296))))))) else (none)) else (none)) = some (r1, r2) := H
       have A7 := ah.mk UZ
       clear UZ
       obtain ⟨lV, TJ⟩ : ∃ j_ : Int, (IntKind.u64.wrap (t165)) = j_ := ⟨_, rfl⟩
       replace H : (if 0 ≤ (lV) then (if 0 ≤ (IntKind.u64.wrap (64 - (lV))) then (if ((shl .u64 a2 (lV)) / 4294967296) = 0 then (none) else (bC.l0 k (shl .u64 a2 (lV)) lV ((shl .u64 a2 (lV)) / 4294967296) (Go.bits .and .u64 (shl .u64 a2 (lV)) 4294967295) (Go.bits .or .u64 (shl .u64 a0 (lV)) (shr .u64 a1 (IntKind.u64.wrap (64 - (lV))))) ((shl .u64 a1 (lV)) / 4294967296) (Go.bits .and .u64 (shl .u64 a1 (lV)) 4294967295) (IntKind.u64.wrap (Int.tdiv (Go.bits .or .u64 (shl .u64 a0 (lV)) (shr .u64 a1 (IntKind.u64.wrap (64 - (lV))))) ((shl .u64 a2 (lV)) / 4294967296))) (IntKind.u64.wrap ((Go.bits .or .u64 (shl .u64 a0 (lV)) (shr .u64 a1 (IntKind.u64.wrap (64 - (lV))))) - (IntKind.u64.wrap ((IntKind.u64.wrap (Int.tdiv (Go.bits .or .u64 (shl .u64 a0 (lV)) (shr .u64 a1 (IntKind.u64.wrap (64 - (lV))))) ((shl .u64 a2 (lV)) / 4294967296))) * ((shl .u64 a2 (lV)) / 4294967296))))))) else (none)) else (none)) = some (r1, r2) := by first | (rw [TJ] at H; exact H) | (simp only [TJ] at H ⊢; exact H)
       (try rw [TJ] at A7)
       by_cases c9 : 0 ≤ (lV)
       · rw [if_pos c9] at H
         have BG := eq_true c9
         have Oi : decide (0 ≤ (lV)) = true := decide_eq_true c9
         clear c9
         obtain ⟨gB, uI⟩ : ∃ j_ : Int, (shl .u64 a2 (lV)) = j_ := ⟨_, rfl⟩
         replace H : (if 0 ≤ (IntKind.u64.wrap (64 - (lV))) then (if ((gB) / 4294967296) = 0 then (none) else (bC.l0 k gB lV ((gB) / 4294967296) (Go.bits .and .u64 (gB) 4294967295) (Go.bits .or .u64 (shl .u64 a0 (lV)) (shr .u64 a1 (IntKind.u64.wrap (64 - (lV))))) ((shl .u64 a1 (lV)) / 4294967296) (Go.bits .and .u64 (shl .u64 a1 (lV)) 4294967295) (IntKind.u64.wrap (Int.tdiv (Go.bits .or .u64 (shl .u64 a0 (lV)) (shr .u64 a1 (IntKind.u64.wrap (64 - (lV))))) ((gB) / 4294967296))) (IntKind.u64.wrap ((Go.bits .or .u64 (shl .u64 a0 (lV)) (shr .u64 a1 (IntKind.u64.wrap (64 - (lV))))) - (IntKind.u64.wrap ((IntKind.u64.wrap (Int.tdiv (Go.bits .or .u64 (shl .u64 a0 (lV)) (shr .u64 a1 (IntKind.u64.wrap (64 - (lV))))) ((gB) / 4294967296))) * ((gB) / 4294967296))))))) else (none)) = some (r1, r2) := by first | (rw [uI] at H; exact H) | (simp only [uI] at H ⊢; exact H)
         (try rw [uI] at A7)
         have ait : (IntKind.u64.wrap (a2 * 2 ^ min (lV).toNat 64)) = gB := uI
         have ais : (lV) ≤ 64 → (IntKind.u64.wrap (a2 * 2 ^ (lV).toNat)) = gB := BZ uI
         have qJ := eq_true (of_decide_eq_true (by first | (with_reducible assumption) | assumption) : 0 ≤ (lV))
         obtain ⟨nD, yB⟩ : ∃ j_ : Int, (shl .u64 a0 (lV)) = j_ := ⟨_, rfl⟩
         replace H : (if 0 ≤ (IntKind.u64.wrap (64 - (lV))) then (if ((gB) / 4294967296) = 0 then (none) else (bC.l0 k gB lV ((gB) / 4294967296) (Go.bits .and .u64 (gB) 4294967295) (Go.bits .or .u64 (nD) (shr .u64 a1 (IntKind.u64.wrap (64 - (lV))))) ((shl .u64 a1 (lV)) / 4294967296) (Go.bits .and .u64 (shl .u64 a1 (lV)) 4294967295) (IntKind.u64.wrap (Int.tdiv (Go.bits .or .u64 (nD) (shr .u64 a1 (IntKind.u64.wrap (64 - (lV))))) ((gB) / 4294967296))) (IntKind.u64.wrap ((Go.bits .or .u64 (nD) (shr .u64 a1 (IntKind.u64.wrap (64 - (lV))))) - (IntKind.u64.wrap ((IntKind.u64.wrap (Int.tdiv (Go.bits .or .u64 (nD) (shr .u64 a1 (IntKind.u64.wrap (64 - (lV))))) ((gB) / 4294967296))) * ((gB) / 4294967296))))))) else (none)) = some (r1, r2) := by first | (rw [yB] at H; exact H) | (simp only [yB] at H ⊢; exact H)
         (try rw [yB] at A7)
         have air : (IntKind.u64.wrap (a0 * 2 ^ min (lV).toNat 64)) = nD := yB
         have aiq : (lV) ≤ 64 → (IntKind.u64.wrap (a0 * 2 ^ (lV).toNat)) = nD := BZ yB
         obtain ⟨Fj, Ll⟩ : ∃ j_ : Int, (IntKind.u64.wrap (64 - (lV))) = j_ := ⟨_, rfl⟩
         replace H : (if 0 ≤ (Fj) then (if ((gB) / 4294967296) = 0 then (none) else (bC.l0 k gB lV ((gB) / 4294967296) (Go.bits .and .u64 (gB) 4294967295) (Go.bits .or .u64 (nD) (shr .u64 a1 (Fj))) ((shl .u64 a1 (lV)) / 4294967296) (Go.bits .and .u64 (shl .u64 a1 (lV)) 4294967295) (IntKind.u64.wrap (Int.tdiv (Go.bits .or .u64 (nD) (shr .u64 a1 (Fj))) ((gB) / 4294967296))) (IntKind.u64.wrap ((Go.bits .or .u64 (nD) (shr .u64 a1 (Fj))) - (IntKind.u64.wrap ((IntKind.u64.wrap (Int.tdiv (Go.bits .or .u64 (nD) (shr .u64 a1 (Fj))) ((gB) / 4294967296))) * ((gB) / 4294967296))))))) else (none)) = some (r1, r2) := by first | (rw [Ll] at H; exact H) | (simp only [Ll] at H ⊢; exact H)
         (try rw [Ll] at A7)
         by_cases c14 : 0 ≤ (Fj)
         · rw [if_pos c14] at H
           have oQ := eq_true c14
           have vO : decide (0 ≤ (Fj)) = true := decide_eq_true c14
           clear c14
           obtain ⟨qC, yA⟩ : ∃ j_ : Int, (shr .u64 a1 (Fj)) = j_ := ⟨_, rfl⟩
           replace H : (if ((gB) / 4294967296) = 0 then (none) else (bC.l0 k gB lV ((gB) / 4294967296) (Go.bits .and .u64 (gB) 4294967295) (Go.bits .or .u64 (nD) (qC)) ((shl .u64 a1 (lV)) / 4294967296) (Go.bits .and .u64 (shl .u64 a1 (lV)) 4294967295) (IntKind.u64.wrap (Int.tdiv (Go.bits .or .u64 (nD) (qC)) ((gB) / 4294967296))) (IntKind.u64.wrap ((Go.bits .or .u64 (nD) (qC)) - (IntKind.u64.wrap ((IntKind.u64.wrap (Int.tdiv (Go.bits .or .u64 (nD) (qC)) ((gB) / 4294967296))) * ((gB) / 4294967296))))))) = some (r1, r2) := by first | (rw [yA] at H; exact H) | (simp only [yA] at H ⊢; exact H)
           (try rw [yA] at A7)
           have aip : (a1 / 2 ^ min (Fj).toNat 64) = qC := yA
           have aio : (Fj) ≤ 64 → (a1 / 2 ^ (Fj).toNat) = qC := BX yA
           have DX := eq_true (of_decide_eq_true (by first | (with_reducible assumption) | assumption) : 0 ≤ (lV))
           obtain ⟨mJ, uH⟩ : ∃ j_ : Int, (shl .u64 a1 (lV)) = j_ := ⟨_, rfl⟩
           replace H : (if ((gB) / 4294967296) = 0 then (none) else (bC.l0 k gB lV ((gB) / 4294967296) (Go.bits .and .u64 (gB) 4294967295) (Go.bits .or .u64 (nD) (qC)) ((mJ) / 4294967296) (Go.bits .and .u64 (mJ) 4294967295) (IntKind.u64.wrap (Int.tdiv (Go.bits .or .u64 (nD) (qC)) ((gB) / 4294967296))) (IntKind.u64.wrap ((Go.bits .or .u64 (nD) (qC)) - (IntKind.u64.wrap ((IntKind.u64.wrap (Int.tdiv (Go.bits .or .u64 (nD) (qC)) ((gB) / 4294967296))) * ((gB) / 4294967296))))))) = some (r1, r2) := by first | (rw [uH] at H; exact H) | (simp only [uH] at H ⊢; exact H)
           (try rw [uH] at A7)
           have Zd : (IntKind.u64.wrap (a1 * 2 ^ min (lV).toNat 64)) = mJ := uH
           have ain : (lV) ≤ 64 → (IntKind.u64.wrap (a1 * 2 ^ (lV).toNat)) = mJ := BZ uH
           by_cases c18 : ((gB) / 4294967296) = 0
           · rw [if_pos c18] at H
             exact absurd H (by simp)
           · rw [if_neg c18] at H
             have BI : (((gB) / 4294967296) == 0) = false := beq_eq_false_iff_ne.mpr c18
             have LW : (((gB) / 4294967296) != 0) = true := bne_iff_ne.mpr c18
             have aad := ah.mk H
             clear H
             go_enter Try.func88, Try.ntmps88
             go_upto_block 0 with (first | (go_at_call 93; (with_reducible refine (bits_LeadingZeros64.calls a2 t165 _ A7.out).mono ?_); rintro e w' ⟨rfl, ⟨nd, rfl⟩⟩; (try first | exact ⟨rfl, _, World.drewN_drewN _ _ _⟩ | exact ⟨rfl, _, Eq.trans (World.drewN_drewN _ _ _) (congrArg (World.drewN _) (Nat.add_assoc _ _ _))⟩)))
             repeat (go_quiet (first | (go_at_call 93; (with_reducible refine (bits_LeadingZeros64.calls a2 t165 _ A7.out).mono ?_); rintro e w' ⟨rfl, ⟨nd, rfl⟩⟩; (try first | exact ⟨rfl, _, World.drewN_drewN _ _ _⟩ | exact ⟨rfl, _, Eq.trans (World.drewN_drewN _ _ _) (congrArg (World.drewN _) (Nat.add_assoc _ _ _))⟩))); go_upto_block 0 with (first | (go_at_call 93; (with_reducible refine (bits_LeadingZeros64.calls a2 t165 _ A7.out).mono ?_); rintro e w' ⟨rfl, ⟨nd, rfl⟩⟩; (try first | exact ⟨rfl, _, World.drewN_drewN _ _ _⟩ | exact ⟨rfl, _, Eq.trans (World.drewN_drewN _ _ _) (congrArg (World.drewN _) (Nat.add_assoc _ _ _))⟩))))
             (try simp only [Act.put, List.setIfInBounds_toArray, List.set_cons_zero, List.set_cons_succ])
             go_cut [15] (fun v15 wc => ∃ (kq : Nat) (lY : Int), v15 = .int .u64 lY ∧ ah (bC.j2 kq gB lV ((gB) / 4294967296) (Go.bits .and .u64 (gB) 4294967295) (Go.bits .or .u64 (nD) (qC)) ((mJ) / 4294967296) (Go.bits .and .u64 (mJ) 4294967295) lY = some (r1, r2)) ∧ ah (kq ≤ k) ∧ dK w wc)
             case first =>
              have H := aad.out
              clear aad
              have H' := ah.mk H
              clear H
              go_wp2
              repeat (go_quiet (fail); try go_wp2)
              go_loopg [15, 16] k (fun kq v15 v16 w' => ∃ (kL : Int) (AQ : Int), v15 = .int .u64 kL ∧ v16 = .int .u64 AQ ∧ ah (bC.l0 kq gB lV ((gB) / 4294967296) (Go.bits .and .u64 (gB) 4294967295) (Go.bits .or .u64 (nD) (qC)) ((mJ) / 4294967296) (Go.bits .and .u64 (mJ) 4294967295) kL AQ = some (r1, r2)) ∧ ah (kq ≤ k) ∧ dK w w')
              case atStart => exact ⟨(IntKind.u64.wrap (Int.tdiv (Go.bits .or .u64 (nD) (qC)) ((gB) / 4294967296))), (IntKind.u64.wrap ((Go.bits .or .u64 (nD) (qC)) - (IntKind.u64.wrap ((IntKind.u64.wrap (Int.tdiv (Go.bits .or .u64 (nD) (qC)) ((gB) / 4294967296))) * ((gB) / 4294967296))))), (by first | rfl | (simp; done) | (simp only [← uI, ← yB, ← yA] <;> (first | rfl | simp)) | (simp [*]; done)), (by first | rfl | (simp; done) | (simp only [← uI, ← yB, ← yA] <;> (first | rfl | simp)) | (simp [*]; done)), H', ⟨Nat.le_refl _⟩, by repeat (first | exact dK.refl _ | apply dK.step)⟩
              case round =>
               clear H'
               try clear c1
               try clear p2
               try clear c4
               try clear ru
               try clear Gn
               try clear c5
               try clear uT
               try clear c6
               try clear wC
               try clear Hl
               try clear c8
               try clear c9
               try clear BG
               try clear Oi
               try clear c11
               try clear qJ
               try clear c14
               try clear oQ
               try clear vO
               try clear c16
               try clear DX
               try clear c18
               try clear BI
               try clear LW
               obtain ⟨kL, AQ, rfl, rfl, HA, Aq, ⟨m1, rfl⟩⟩ := hrel
               cases gk with
               | zero => exact absurd HA.out (by simp [bC.l0])
               | succ k1 =>
                 have H := HA.out
                 clear HA
                 simp only [bC.l0] at H
                 have aac := ah.mk H
                 clear H
                 go_upto_region 17 with (fail)
                 repeat (go_quiet (fail); go_upto_region 17 with (fail))
                 go_cut [78] (fun v78 wc => ∃ (kq : Nat) (IG : Bool), v78 = .bool IG ∧ ah (bC.j1 kq gB lV ((gB) / 4294967296) (Go.bits .and .u64 (gB) 4294967295) (Go.bits .or .u64 (nD) (qC)) ((mJ) / 4294967296) (Go.bits .and .u64 (mJ) 4294967295) kL AQ IG = some (r1, r2)) ∧ ah (kq ≤ k1) ∧ dK w wc)
                 case first =>
                  have H := aac.out
                  clear aac
                  by_cases c21 : kL ≥ 4294967296
                  · rw [if_pos c21] at H
                    have vN : decide (4294967296 ≤ kL) = true := decide_eq_true c21
                    clear c21
                    (first | rw [vN] | (simp only [aJ, aK]; rw [vN]) | skip)
                    have H' := ah.mk H
                    clear H
                    go_wp2
                    repeat (go_quiet (fail); try go_wp2)
                    go_meet
                    case rel => exact ⟨_, (true), (by first | rfl | (simp; done) | (simp [*]; done)), H', ⟨by have := Aq.out; first | omega | exact Nat.le_refl _⟩, by repeat (first | exact dK.refl _ | apply dK.step)⟩
                  · rw [if_neg c21] at H
                    have vN : decide (4294967296 ≤ kL) = false := decide_eq_false c21
                    clear c21
                    (first | rw [vN] | (simp only [aJ, aK]; rw [vN]) | skip)
                    have H' := ah.mk H
                    clear H
                    go_wp2
                    repeat (go_quiet (fail); try go_wp2)
                    go_meet
                    case rel => exact ⟨_, (decide ((IntKind.u64.wrap (kL * (Go.bits .and .u64 (gB) 4294967295))) > (IntKind.u64.wrap ((IntKind.u64.wrap (4294967296 * AQ)) + ((mJ) / 4294967296))))), (by first | rfl | (simp; done) | (simp only [← uI, ← uH] <;> (first | rfl | simp)) | (simp [*]; done)), H', ⟨by have := Aq.out; first | omega | exact Nat.le_refl _⟩, by repeat (first | exact dK.refl _ | apply dK.step)⟩
                 case rest =>
                  clear aac
                  try clear c1
                  try clear c2
                  try clear p2
                  try clear c4
                  try clear ru
                  try clear Gn
                  try clear c5
                  try clear uT
                  try clear c6
                  try clear wC
                  try clear Hl
                  try clear c8
                  try clear c9
                  try clear BG
                  try clear Oi
                  try clear c11
                  try clear qJ
                  try clear c14
                  try clear oQ
                  try clear vO
                  try clear c16
                  try clear DX
                  try clear c18
                  try clear BI
                  try clear LW
                  try clear c21
                  try clear vN
                  try clear p2
                  obtain ⟨kq, IG, rfl, HA, XV, ⟨ani, rfl⟩⟩ := hcut
                  cases kq with
                  | zero => exact absurd HA.out (by simp [bC.j1])
                  | succ aaP =>
                    have H := HA.out
                    clear HA
                    simp only [bC.j1] at H
                    by_cases RU : IG = true
                    · subst RU
                      rw [if_pos rfl] at H
                      by_cases c23 : (IntKind.u64.wrap (AQ + ((gB) / 4294967296))) ≥ 4294967296
                      · rw [if_pos c23] at H
                        have DW : decide (4294967296 ≤ (IntKind.u64.wrap (AQ + ((gB) / 4294967296)))) = true := decide_eq_true c23
                        clear c23
                        have H' := ah.mk H
                        clear H
                        go_wp2
                        repeat (go_quiet (fail); try go_wp2)
                        go_meet
                        case rel => exact ⟨_, (IntKind.u64.wrap (kL - 1)), (by first | rfl | (simp; done) | (simp [*]; done)), H', ⟨by have := Aq.out; have := XV.out; first | omega | exact Nat.le_refl _⟩, by repeat (first | exact dK.refl _ | apply dK.step)⟩
                      · rw [if_neg c23] at H
                        have DW : decide (4294967296 ≤ (IntKind.u64.wrap (AQ + ((gB) / 4294967296)))) = false := decide_eq_false c23
                        clear c23
                        have H' := ah.mk H
                        clear H
                        go_wp2
                        repeat (go_quiet (fail); try go_wp2)
                        go_roundg aaP
                        case measure => have := Aq.out; have := XV.out; omega
                        case rel => exact ⟨(IntKind.u64.wrap (kL - 1)), (IntKind.u64.wrap (AQ + ((gB) / 4294967296))), (by first | rfl | (simp; done) | (simp [*]; done)), (by first | rfl | (simp; done) | (simp only [← uI] <;> (first | rfl | simp)) | (simp [*]; done)), H', ⟨by have := Aq.out; have := XV.out; omega⟩, by repeat (first | exact dK.refl _ | apply dK.step)⟩
                    · replace RU := Bool.eq_false_iff.mpr RU
                      subst RU
                      have H1 : (bC.j2 aaP gB lV ((gB) / 4294967296) (Go.bits .and .u64 (gB) 4294967295) (Go.bits .or .u64 (nD) (qC)) ((mJ) / 4294967296) (Go.bits .and .u64 (mJ) 4294967295) kL) = some (r1, r2) := by rw [if_neg (show ¬ (false = true) by decide)] at H; exact H
                      clear H
                      have H := H1
                      clear H1
                      have H' := ah.mk H
                      clear H
                      go_wp2
                      repeat (go_quiet (fail); try go_wp2)
                      go_meet
                      case rel => exact ⟨_, (kL), (by first | rfl | (simp; done) | (simp [*]; done)), H', ⟨by have := Aq.out; have := XV.out; first | omega | exact Nat.le_refl _⟩, by repeat (first | exact dK.refl _ | apply dK.step)⟩
             case rest =>
              clear aad
              try clear c1
              try clear c2
              try clear p2
              try clear c4
              try clear ru
              try clear Gn
              try clear c5
              try clear uT
              try clear c6
              try clear wC
              try clear Hl
              try clear c8
              try clear c9
              try clear BG
              try clear Oi
              try clear c11
              try clear qJ
              try clear c14
              try clear oQ
              try clear vO
              try clear c16
              try clear DX
              try clear c18
              try clear BI
              try clear LW
              try clear c19
              try clear c21
              try clear vN
              try clear RU
              try clear c23
              try clear DW
              try clear p2
              obtain ⟨kq, lY, rfl, HA, XW, ⟨anj, rfl⟩⟩ := hcut
              cases kq with
              | zero => exact absurd HA.out (by simp [bC.j2])
              | succ aaQ =>
                have H := HA.out
                clear HA
                simp only [bC.j2] at H
                by_cases c24 : ((gB) / 4294967296) = 0
                · rw [if_pos c24] at H
                  exact absurd H (by simp)
                · rw [if_neg c24] at H
                  have LU : (((gB) / 4294967296) == 0) = false := beq_eq_false_iff_ne.mpr c24
                  have Qm : (((gB) / 4294967296) != 0) = true := bne_iff_ne.mpr c24
                  have H' := ah.mk H
                  clear H
                  go_wp2
                  repeat (go_quiet (fail); try go_wp2)
                  go_loopg [16, 18] aaQ (fun kq v16 v18 w' => ∃ (AP : Int) (qw : Int), v16 = .int .u64 AP ∧ v18 = .int .u64 qw ∧ ah (bC.l1 kq gB lV ((gB) / 4294967296) (Go.bits .and .u64 (gB) 4294967295) (Go.bits .and .u64 (mJ) 4294967295) lY AP (IntKind.u64.wrap ((IntKind.u64.wrap ((IntKind.u64.wrap ((Go.bits .or .u64 (nD) (qC)) * 4294967296)) + ((mJ) / 4294967296))) - (IntKind.u64.wrap (lY * gB)))) qw = some (r1, r2)) ∧ ah (kq ≤ aaQ) ∧ dK w w')
                  case atStart => exact ⟨(IntKind.u64.wrap ((IntKind.u64.wrap ((IntKind.u64.wrap ((IntKind.u64.wrap ((Go.bits .or .u64 (nD) (qC)) * 4294967296)) + ((mJ) / 4294967296))) - (IntKind.u64.wrap (lY * gB)))) - (IntKind.u64.wrap ((IntKind.u64.wrap (Int.tdiv (IntKind.u64.wrap ((IntKind.u64.wrap ((IntKind.u64.wrap ((Go.bits .or .u64 (nD) (qC)) * 4294967296)) + ((mJ) / 4294967296))) - (IntKind.u64.wrap (lY * gB)))) ((gB) / 4294967296))) * ((gB) / 4294967296))))), (IntKind.u64.wrap (Int.tdiv (IntKind.u64.wrap ((IntKind.u64.wrap ((IntKind.u64.wrap ((Go.bits .or .u64 (nD) (qC)) * 4294967296)) + ((mJ) / 4294967296))) - (IntKind.u64.wrap (lY * gB)))) ((gB) / 4294967296))), (by first | rfl | (simp; done) | (simp only [← uI, ← yB, ← yA, ← uH] <;> (first | rfl | simp)) | (simp [*]; done)), (by first | rfl | (simp; done) | (simp only [← uI, ← yB, ← yA, ← uH] <;> (first | rfl | simp)) | (simp [*]; done)), H', ⟨Nat.le_refl _⟩, by repeat (first | exact dK.refl _ | apply dK.step)⟩
                  case round =>
                   clear H'
                   try clear c1
                   try clear c2
                   try clear p2
                   try clear c4
                   try clear ru
                   try clear Gn
                   try clear c5
                   try clear uT
                   try clear c6
                   try clear wC
                   try clear Hl
                   try clear c8
                   try clear c9
                   try clear BG
                   try clear Oi
                   try clear c11
                   try clear qJ
                   try clear c14
                   try clear oQ
                   try clear vO
                   try clear c16
                   try clear DX
                   try clear c18
                   try clear BI
                   try clear LW
                   try clear c19
                   try clear c21
                   try clear vN
                   try clear RU
                   try clear c23
                   try clear DW
                   try clear c24
                   try clear LU
                   try clear Qm
                   try clear p2
                   obtain ⟨AP, qw, rfl, rfl, HA, yN, ⟨m2, rfl⟩⟩ := hrel
                   cases gk with
                   | zero => exact absurd HA.out (by simp [bC.l1])
                   | succ k2 =>
                     have H := HA.out
                     clear HA
                     simp only [bC.l1] at H
                     have aab := ah.mk H
                     clear H
                     go_upto_region 24 with (fail)
                     repeat (go_quiet (fail); go_upto_region 24 with (fail))
                     go_cut [113] (fun ahI wc => ∃ (kq : Nat) (Ej : Bool), ahI = .bool Ej ∧ ah (bC.j4 kq gB lV ((gB) / 4294967296) (Go.bits .and .u64 (gB) 4294967295) (Go.bits .and .u64 (mJ) 4294967295) lY AP (IntKind.u64.wrap ((IntKind.u64.wrap ((IntKind.u64.wrap ((Go.bits .or .u64 (nD) (qC)) * 4294967296)) + ((mJ) / 4294967296))) - (IntKind.u64.wrap (lY * gB)))) qw Ej = some (r1, r2)) ∧ ah (kq ≤ k2) ∧ dK w wc)
                     case first =>
                      have H := aab.out
                      clear aab
                      by_cases JP : qw ≥ 4294967296
                      · rw [if_pos JP] at H
                        have BH : decide (4294967296 ≤ qw) = true := decide_eq_true JP
                        clear JP
                        (first | rw [BH] | (simp only [aJ, aK]; rw [BH]) | skip)
                        have H' := ah.mk H
                        clear H
                        go_wp2
                        repeat (go_quiet (fail); try go_wp2)
                        go_meet
                        case rel => exact ⟨_, (true), (by first | rfl | (simp; done) | (simp [*]; done)), H', ⟨by have := XW.out; have := yN.out; first | omega | exact Nat.le_refl _⟩, by repeat (first | exact dK.refl _ | apply dK.step)⟩
                      · rw [if_neg JP] at H
                        have BH : decide (4294967296 ≤ qw) = false := decide_eq_false JP
                        clear JP
                        (first | rw [BH] | (simp only [aJ, aK]; rw [BH]) | skip)
                        have H' := ah.mk H
                        clear H
                        go_wp2
                        repeat (go_quiet (fail); try go_wp2)
                        go_meet
                        case rel => exact ⟨_, (decide ((IntKind.u64.wrap (qw * (Go.bits .and .u64 (gB) 4294967295))) > (IntKind.u64.wrap ((IntKind.u64.wrap (4294967296 * AP)) + (Go.bits .and .u64 (mJ) 4294967295))))), (by first | rfl | (simp; done) | (simp only [← uI, ← uH] <;> (first | rfl | simp)) | (simp [*]; done)), H', ⟨by have := XW.out; have := yN.out; first | omega | exact Nat.le_refl _⟩, by repeat (first | exact dK.refl _ | apply dK.step)⟩
                     case rest =>
                      clear aab
                      try clear c1
                      try clear c2
                      try clear p2
                      try clear c4
                      try clear ru
                      try clear Gn
                      try clear c5
                      try clear uT
                      try clear c6
                      try clear wC
                      try clear Hl
                      try clear c8
                      try clear c9
                      try clear BG
                      try clear Oi
                      try clear c11
                      try clear qJ
                      try clear c14
                      try clear oQ
                      try clear vO
                      try clear c16
                      try clear DX
                      try clear c18
                      try clear BI
                      try clear LW
                      try clear c19
                      try clear c21
                      try clear vN
                      try clear RU
                      try clear c23
                      try clear DW
                      try clear c24
                      try clear LU
                      try clear Qm
                      try clear JP
                      try clear BH
                      try clear p2
                      obtain ⟨kq, Ej, rfl, HA, ac0, ⟨anh, rfl⟩⟩ := hcut
                      cases kq with
                      | zero => exact absurd HA.out (by simp [bC.j4])
                      | succ ahV =>
                        have H := HA.out
                        clear HA
                        simp only [bC.j4] at H
                        by_cases XF : Ej = true
                        · subst XF
                          rw [if_pos rfl] at H
                          by_cases c28 : (IntKind.u64.wrap (AP + ((gB) / 4294967296))) ≥ 4294967296
                          · rw [if_pos c28] at H
                            have Yu : decide (4294967296 ≤ (IntKind.u64.wrap (AP + ((gB) / 4294967296)))) = true := decide_eq_true c28
                            clear c28
                            by_cases c29 : 0 ≤ lV
                            · rw [if_pos c29] at H
                              have abK := eq_true c29
                              have aly : decide (0 ≤ lV) = true := decide_eq_true c29
                              clear c29
                              obtain ⟨uG, zT⟩ : ∃ j_ : Int, (shr .u64 (IntKind.u64.wrap ((IntKind.u64.wrap ((IntKind.u64.wrap ((IntKind.u64.wrap ((IntKind.u64.wrap ((IntKind.u64.wrap ((Go.bits .or .u64 (nD) (qC)) * 4294967296)) + ((mJ) / 4294967296))) - (IntKind.u64.wrap (lY * gB)))) * 4294967296)) + (Go.bits .and .u64 (mJ) 4294967295))) - (IntKind.u64.wrap ((IntKind.u64.wrap (qw - 1)) * gB)))) lV) = j_ := ⟨_, rfl⟩
                              replace H : (some (IntKind.u64.wrap ((IntKind.u64.wrap (lY * 4294967296)) + (IntKind.u64.wrap (qw - 1))), uG)) = some (r1, r2) := by first | (rw [zT] at H; exact H) | (simp only [zT] at H ⊢; exact H)
                              have aih : ((IntKind.u64.wrap ((IntKind.u64.wrap ((IntKind.u64.wrap ((IntKind.u64.wrap ((IntKind.u64.wrap ((IntKind.u64.wrap ((Go.bits .or .u64 (nD) (qC)) * 4294967296)) + ((mJ) / 4294967296))) - (IntKind.u64.wrap (lY * gB)))) * 4294967296)) + (Go.bits .and .u64 (mJ) 4294967295))) - (IntKind.u64.wrap ((IntKind.u64.wrap (qw - 1)) * gB)))) / 2 ^ min lV.toNat 64) = uG := zT
                              have aie : lV ≤ 64 → ((IntKind.u64.wrap ((IntKind.u64.wrap ((IntKind.u64.wrap ((IntKind.u64.wrap ((IntKind.u64.wrap ((IntKind.u64.wrap ((Go.bits .or .u64 (nD) (qC)) * 4294967296)) + ((mJ) / 4294967296))) - (IntKind.u64.wrap (lY * gB)))) * 4294967296)) + (Go.bits .and .u64 (mJ) 4294967295))) - (IntKind.u64.wrap ((IntKind.u64.wrap (qw - 1)) * gB)))) / 2 ^ lV.toNat) = uG := BX zT
                              simp only [Option.some.injEq, Prod.mk.injEq] at H
                              obtain ⟨rfl, rfl⟩ := H
                              go_wp2
                              repeat (go_quiet (fail); try go_wp2)
                              go_ret2
                              exact ⟨by first | rfl | (simp; done) | (simp only [← TJ, ← uI, ← yB, ← Ll, ← yA, ← uH, ← zT] <;> (first | rfl | simp)) | (simp [*]; done), by repeat (first | exact dK.refl _ | apply dK.step)⟩
                            · rw [if_neg c29] at H
                              exact absurd H (by simp)
                          · rw [if_neg c28] at H
                            have Yu : decide (4294967296 ≤ (IntKind.u64.wrap (AP + ((gB) / 4294967296)))) = false := decide_eq_false c28
                            clear c28
                            have H' := ah.mk H
                            clear H
                            go_wp2
                            repeat (go_quiet (fail); try go_wp2)
                            go_roundg ahV
                            case measure => have := XW.out; have := yN.out; have := ac0.out; omega
                            case rel => exact ⟨(IntKind.u64.wrap (AP + ((gB) / 4294967296))), (IntKind.u64.wrap (qw - 1)), (by first | rfl | (simp; done) | (simp only [← uI] <;> (first | rfl | simp)) | (simp [*]; done)), (by first | rfl | (simp; done) | (simp [*]; done)), H', ⟨by have := XW.out; have := yN.out; have := ac0.out; omega⟩, by repeat (first | exact dK.refl _ | apply dK.step)⟩
                        · replace XF := Bool.eq_false_iff.mpr XF
                          subst XF
                          have H1 : (if 0 ≤ lV then (some (IntKind.u64.wrap ((IntKind.u64.wrap (lY * 4294967296)) + qw), shr .u64 (IntKind.u64.wrap ((IntKind.u64.wrap ((IntKind.u64.wrap ((IntKind.u64.wrap ((IntKind.u64.wrap ((IntKind.u64.wrap ((Go.bits .or .u64 (nD) (qC)) * 4294967296)) + ((mJ) / 4294967296))) - (IntKind.u64.wrap (lY * gB)))) * 4294967296)) + (Go.bits .and .u64 (mJ) 4294967295))) - (IntKind.u64.wrap (qw * gB)))) lV)) else (none)) = some (r1, r2) := by rw [if_neg (show ¬ (false = true) by decide)] at H; exact H
                          clear H
                          have H := H1
                          clear H1
                          by_cases c31 : 0 ≤ lV
                          · rw [if_pos c31] at H
                            have abJ := eq_true c31
                            have alx : decide (0 ≤ lV) = true := decide_eq_true c31
                            clear c31
                            obtain ⟨Y_, Lh⟩ : ∃ j_ : Int, (shr .u64 (IntKind.u64.wrap ((IntKind.u64.wrap ((IntKind.u64.wrap ((IntKind.u64.wrap ((IntKind.u64.wrap ((IntKind.u64.wrap ((Go.bits .or .u64 (nD) (qC)) * 4294967296)) + ((mJ) / 4294967296))) - (IntKind.u64.wrap (lY * gB)))) * 4294967296)) + (Go.bits .and .u64 (mJ) 4294967295))) - (IntKind.u64.wrap (qw * gB)))) lV) = j_ := ⟨_, rfl⟩
                            replace H : (some (IntKind.u64.wrap ((IntKind.u64.wrap (lY * 4294967296)) + qw), Y_)) = some (r1, r2) := by first | (rw [Lh] at H; exact H) | (simp only [Lh] at H ⊢; exact H)
                            have aid : ((IntKind.u64.wrap ((IntKind.u64.wrap ((IntKind.u64.wrap ((IntKind.u64.wrap ((IntKind.u64.wrap ((IntKind.u64.wrap ((Go.bits .or .u64 (nD) (qC)) * 4294967296)) + ((mJ) / 4294967296))) - (IntKind.u64.wrap (lY * gB)))) * 4294967296)) + (Go.bits .and .u64 (mJ) 4294967295))) - (IntKind.u64.wrap (qw * gB)))) / 2 ^ min lV.toNat 64) = Y_ := Lh
                            have aic : lV ≤ 64 → ((IntKind.u64.wrap ((IntKind.u64.wrap ((IntKind.u64.wrap ((IntKind.u64.wrap ((IntKind.u64.wrap ((IntKind.u64.wrap ((Go.bits .or .u64 (nD) (qC)) * 4294967296)) + ((mJ) / 4294967296))) - (IntKind.u64.wrap (lY * gB)))) * 4294967296)) + (Go.bits .and .u64 (mJ) 4294967295))) - (IntKind.u64.wrap (qw * gB)))) / 2 ^ lV.toNat) = Y_ := BX Lh
                            simp only [Option.some.injEq, Prod.mk.injEq] at H
                            obtain ⟨rfl, rfl⟩ := H
                            go_wp2
                            repeat (go_quiet (fail); try go_wp2)
                            go_ret2
                            exact ⟨by first | rfl | (simp; done) | (simp only [← TJ, ← uI, ← yB, ← Ll, ← yA, ← uH, ← Lh] <;> (first | rfl | simp)) | (simp [*]; done), by repeat (first | exact dK.refl _ | apply dK.step)⟩
                          · rw [if_neg c31] at H
                            exact absurd H (by simp)
         · rw [if_neg c14] at H
           exact absurd H (by simp)
       · rw [if_neg c9] at H
         exact absurd H (by simp)
def rQ.f (k : Nat) (a0 : Int) (a1 : Int) : Option (Int × Bool) := (fJ.f a0 a1).bind fun jF => (if jF.2.1 = 0 then (if jF.1 > 0 then (some (70368744177663, true)) else (if jF.1 < 0 then (some ((-70368744177664), true)) else (some (0, true)))) else ((dO.f jF.1).bind fun t169 => ((dO.f jF.2.1).bind fun t170 => (if (t169 / 1099511627776) ≥ t170 then ((bF.f 1 0 ((decide (jF.1 < 0)) != (decide (jF.2.1 < 0)))).bind fun BK => (some (BK.1, true))) else ((bC.f k (t169 / 1099511627776) (IntKind.u64.wrap (t169 * 16777216)) t170).bind fun iR => (if iR.2 > (IntKind.u64.wrap (t170 - iR.2)) then ((bF.f 0 (IntKind.u64.wrap (iR.1 + 1)) ((decide (jF.1 < 0)) != (decide (jF.2.1 < 0)))).bind fun og => (if jF.2.2 = true then (some (og.1, true)) else (some (og.1, og.2)))) else (if iR.2 = (IntKind.u64.wrap (t170 - iR.2)) then (if (Go.bits .and .u64 iR.1 1) = 1 then ((bF.f 0 (IntKind.u64.wrap (iR.1 + 1)) ((decide (jF.1 < 0)) != (decide (jF.2.1 < 0)))).bind fun n_ => (if jF.2.2 = true then (some (n_.1, true)) else (some (n_.1, n_.2)))) else ((bF.f 0 iR.1 ((decide (jF.1 < 0)) != (decide (jF.2.1 < 0)))).bind fun nZ => (if jF.2.2 = true then (some (nZ.1, true)) else (some (nZ.1, nZ.2))))) else ((bF.f 0 iR.1 ((decide (jF.1 < 0)) != (decide (jF.2.1 < 0)))).bind fun nY => (if jF.2.2 = true then (some (nY.1, true)) else (some (nY.1, nY.2)))))))))))
theorem rQ.calls (k : Nat) (a0 : Int) (a1 : Int) (r1 : Int) (r2 : Bool) (w : World) (h : rQ.f k a0 a1 = some (r1, r2)) :
 Calls Try.prog 67 #[.int .i64 a0, .int .i64 a1] w fun e w' => e = .returned (.tuple #[.int .i64 r1, .bool r2]) ∧ Below w.heap.size w w' := by
 have HB := ah.mk (Below.refl w.heap.size w)
 have H : ((fJ.f a0 a1).bind fun jF => (if jF.2.1 = 0 then (if jF.1 > 0 then (some (70368744177663, true)) else (if jF.1 < 0 then (some ((-70368744177664), true)) else (some (0, true)))) else ((dO.f jF.1).bind fun t169 => ((dO.f jF.2.1).bind fun t170 => (if (t169 / 1099511627776) ≥ t170 then ((bF.f 1 0 ((decide (jF.1 < 0)) != (decide (jF.2.1 < 0)))).bind fun BK => (some (BK.1, true))) else ((bC.f k (t169 / 1099511627776) (IntKind.u64.wrap (t169 * 16777216)) t170).bind fun iR => (if iR.2 > (IntKind.u64.wrap (t170 - iR.2)) then ((bF.f 0 (IntKind.u64.wrap (iR.1 + 1)) ((decide (jF.1 < 0)) != (decide (jF.2.1 < 0)))).bind fun og => (if jF.2.2 = true then (some (og.1, true)) else (some (og.1, og.2)))) else (if iR.2 = (IntKind.u64.wrap (t170 - iR.2)) then (if (Go.bits .and .u64 iR.1 1) = 1 then ((bF.f 0 (IntKind.u64.wrap (iR.1 + 1)) ((decide (jF.1 < 0)) != (decide (jF.2.1 < 0)))).bind fun n_ => (if jF.2.2 = true then (some (n_.1, true)) else (some (n_.1, n_.2)))) else ((bF.f 0 iR.1 ((decide (jF.1 < 0)) != (decide (jF.2.1 < 0)))).bind fun nZ => (if jF.2.2 = true then (some (nZ.1, true)) else (some (nZ.1, nZ.2))))) else ((bF.f 0 iR.1 ((decide (jF.1 < 0)) != (decide (jF.2.1 < 0)))).bind fun nY => (if jF.2.2 = true then (some (nY.1, true)) else (some (nY.1, nY.2)))))))))))) = some (r1, r2) := h
 clear h
 replace H := Option.bind_eq_some_iff.mp H
 obtain ⟨⟨t166, t167, t168⟩, xU, H⟩ := H
 replace H : (if t167 = 0 then (if t166 > 0 then (some (70368744177663, true)) else (if t166 < 0 then (some ((-70368744177664), true)) else (some (0, true)))) else ((dO.f t166).bind fun t169 => ((dO.f t167).bind fun t170 => (if (t169 / 1099511627776) ≥ t170 then ((bF.f 1 0 ((decide (t166 < 0)) != (decide (t167 < 0)))).bind fun BK => (some (BK.1, true))) else ((bC.f k (t169 / 1099511627776) (IntKind.u64.wrap (t169 * 16777216)) t170).bind fun iR => (if iR.2 > (IntKind.u64.wrap (t170 - iR.2)) then ((bF.f 0 (IntKind.u64.wrap (iR.1 + 1)) ((decide (t166 < 0)) != (decide (t167 < 0)))).bind fun og => (if t168 = true then (some (og.1, true)) else (some (og.1, og.2)))) else (if iR.2 = (IntKind.u64.wrap (t170 - iR.2)) then (if (Go.bits .and .u64 iR.1 1) = 1 then ((bF.f 0 (IntKind.u64.wrap (iR.1 + 1)) ((decide (t166 < 0)) != (decide (t167 < 0)))).bind fun n_ => (if t168 = true then (some (n_.1, true)) else (some (n_.1, n_.2)))) else ((bF.f 0 iR.1 ((decide (t166 < 0)) != (decide (t167 < 0)))).bind fun nZ => (if t168 = true then (some (nZ.1, true)) else (some (nZ.1, nZ.2))))) else ((bF.f 0 iR.1 ((decide (t166 < 0)) != (decide (t167 < 0)))).bind fun nY => (if t168 = true then (some (nY.1, true)) else (some (nY.1, nY.2))))))))))) = some (r1, r2) := H
 have A3 := ah.mk xU
 clear xU
 by_cases c4 : t167 = 0
 · rw [if_pos c4] at H
   have ru : (t167 == 0) = true := beq_iff_eq.mpr c4
   have Gn : (t167 != 0) = false := bne_eq_false_iff_eq.mpr c4
   clear c4
   by_cases c5 : t166 > 0
   · rw [if_pos c5] at H
     have uT : decide (0 < t166) = true := decide_eq_true c5
     clear c5
     simp only [Option.some.injEq, Prod.mk.injEq] at H
     obtain ⟨rfl, rfl⟩ := H
     go_enter Try.func67, Try.ntmps67
     go_wp2_with (first | ((with_reducible refine aV (f := 63) rfl ?_); refine cZ (some 21) rfl rfl Try.func63 (by kernel_rfl) rfl #[.int .i64 a0, .int .i64 a1] rfl (by (try simp only [List.map_toArray, List.map_cons, List.map_nil]); first | done | rfl | (simp only [List.length_drop, List.length_take]; rfl)) ?_; (with_reducible refine (fJ.calls a0 a1 t166 t167 t168 _ A3.out).mono ?_); rintro e w6 ⟨rfl, hb⟩; refine ⟨_, rfl, ?_⟩; have bT := ah.mk (aI (by repeat (first | (with_reducible first | exact HB.out | apply au | apply af | apply ak) | exact HB.out)) hb); clear HB; have HB := bT; clear bT; (try clear hb); (try clear hb2); (try clear hk); (try clear hi)))
     go_ret2
     exact ⟨by first | rfl | (simp [aU, aT] <;> rfl) | (simp [*, aU, aT] <;> rfl), by repeat (first | (with_reducible first | exact HB.out | apply au | apply af | apply ak) | exact HB.out)⟩
   · rw [if_neg c5] at H
     have uT : decide (0 < t166) = false := decide_eq_false c5
     clear c5
     by_cases c7 : t166 < 0
     · rw [if_pos c7] at H
       have yG : decide (t166 < 0) = true := decide_eq_true c7
       clear c7
       simp only [Option.some.injEq, Prod.mk.injEq] at H
       obtain ⟨rfl, rfl⟩ := H
       go_enter Try.func67, Try.ntmps67
       go_wp2_with (first | ((with_reducible refine aV (f := 63) rfl ?_); refine cZ (some 21) rfl rfl Try.func63 (by kernel_rfl) rfl #[.int .i64 a0, .int .i64 a1] rfl (by (try simp only [List.map_toArray, List.map_cons, List.map_nil]); first | done | rfl | (simp only [List.length_drop, List.length_take]; rfl)) ?_; (with_reducible refine (fJ.calls a0 a1 t166 t167 t168 _ A3.out).mono ?_); rintro e w8 ⟨rfl, hb⟩; refine ⟨_, rfl, ?_⟩; have bT := ah.mk (aI (by repeat (first | (with_reducible first | exact HB.out | apply au | apply af | apply ak) | exact HB.out)) hb); clear HB; have HB := bT; clear bT; (try clear hb); (try clear hb2); (try clear hk); (try clear hi)))
       go_ret2
       exact ⟨by first | rfl | (simp [aU, aT] <;> rfl) | (simp [*, aU, aT] <;> rfl), by repeat (first | (with_reducible first | exact HB.out | apply au | apply af | apply ak) | exact HB.out)⟩
     · rw [if_neg c7] at H
       have yG : decide (t166 < 0) = false := decide_eq_false c7
       clear c7
       simp only [Option.some.injEq, Prod.mk.injEq] at H
       obtain ⟨rfl, rfl⟩ := H
       go_enter Try.func67, Try.ntmps67
       go_wp2_with (first | ((with_reducible refine aV (f := 63) rfl ?_); refine cZ (some 21) rfl rfl Try.func63 (by kernel_rfl) rfl #[.int .i64 a0, .int .i64 a1] rfl (by (try simp only [List.map_toArray, List.map_cons, List.map_nil]); first | done | rfl | (simp only [List.length_drop, List.length_take]; rfl)) ?_; (with_reducible refine (fJ.calls a0 a1 t166 t167 t168 _ A3.out).mono ?_); rintro e w9 ⟨rfl, hb⟩; refine ⟨_, rfl, ?_⟩; have bT := ah.mk (aI (by repeat (first | (with_reducible first | exact HB.out | apply au | apply af | apply ak) | exact HB.out)) hb); clear HB; have HB := bT; clear bT; (try clear hb); (try clear hb2); (try clear hk); (try clear hi)))
       go_ret2
       exact ⟨by first | rfl | (simp [aU, aT] <;> rfl) | (simp [*, aU, aT] <;> rfl), by repeat (first | (with_reducible first | exact HB.out | apply au | apply af | apply ak) | exact HB.out)⟩
 · rw [if_neg c4] at H
   have ru : (t167 == 0) = false := beq_eq_false_iff_ne.mpr c4
   have Gn : (t167 != 0) = true := bne_iff_ne.mpr c4
   replace H := Option.bind_eq_some_iff.mp H
   obtain ⟨t169, adB, H⟩ := H
   replace H : ((dO.f t167).bind fun t170 => (if (t169 / 1099511627776) ≥ t170 then ((bF.f 1 0 ((decide (t166 < 0)) != (decide (t167 < 0)))).bind fun BK => (some (BK.1, true))) else ((bC.f k (t169 / 1099511627776) (IntKind.u64.wrap (t169 * 16777216)) t170).bind fun iR => (if iR.2 > (IntKind.u64.wrap (t170 - iR.2)) then ((bF.f 0 (IntKind.u64.wrap (iR.1 + 1)) ((decide (t166 < 0)) != (decide (t167 < 0)))).bind fun og => (if t168 = true then (some (og.1, true)) else (some (og.1, og.2)))) else (if iR.2 = (IntKind.u64.wrap (t170 - iR.2)) then (if (Go.bits .and .u64 iR.1 1) = 1 then ((bF.f 0 (IntKind.u64.wrap (iR.1 + 1)) ((decide (t166 < 0)) != (decide (t167 < 0)))).bind fun n_ => (if t168 = true then (some (n_.1, true)) else (some (n_.1, n_.2)))) else ((bF.f 0 iR.1 ((decide (t166 < 0)) != (decide (t167 < 0)))).bind fun nZ => (if t168 = true then (some (nZ.1, true)) else (some (nZ.1, nZ.2))))) else ((bF.f 0 iR.1 ((decide (t166 < 0)) != (decide (t167 < 0)))).bind fun nY => (if t168 = true then (some (nY.1, true)) else (some (nY.1, nY.2))))))))) = some (r1, r2) := H
   have X3 := ah.mk adB
   clear adB
   replace H := Option.bind_eq_some_iff.mp H
   obtain ⟨t170, adA, H⟩ := H
   replace H : (if (t169 / 1099511627776) ≥ t170 then ((bF.f 1 0 ((decide (t166 < 0)) != (decide (t167 < 0)))).bind fun BK => (some (BK.1, true))) else ((bC.f k (t169 / 1099511627776) (IntKind.u64.wrap (t169 * 16777216)) t170).bind fun iR => (if iR.2 > (IntKind.u64.wrap (t170 - iR.2)) then ((bF.f 0 (IntKind.u64.wrap (iR.1 + 1)) ((decide (t166 < 0)) != (decide (t167 < 0)))).bind fun og => (if t168 = true then (some (og.1, true)) else (some (og.1, og.2)))) else (if iR.2 = (IntKind.u64.wrap (t170 - iR.2)) then (if (Go.bits .and .u64 iR.1 1) = 1 then ((bF.f 0 (IntKind.u64.wrap (iR.1 + 1)) ((decide (t166 < 0)) != (decide (t167 < 0)))).bind fun n_ => (if t168 = true then (some (n_.1, true)) else (some (n_.1, n_.2)))) else ((bF.f 0 iR.1 ((decide (t166 < 0)) != (decide (t167 < 0)))).bind fun nZ => (if t168 = true then (some (nZ.1, true)) else (some (nZ.1, nZ.2))))) else ((bF.f 0 iR.1 ((decide (t166 < 0)) != (decide (t167 < 0)))).bind fun nY => (if t168 = true then (some (nY.1, true)) else (some (nY.1, nY.2)))))))) = some (r1, r2) := H
   have X0 := ah.mk adA
   clear adA
   by_cases c12 : (t169 / 1099511627776) ≥ t170
   · rw [if_pos c12] at H
     have Ut : decide (t170 ≤ (t169 / 1099511627776)) = true := decide_eq_true c12
     clear c12
     replace H := Option.bind_eq_some_iff.mp H
     obtain ⟨⟨t171, t172⟩, U5, H⟩ := H
     replace H : (some (t171, true)) = some (r1, r2) := H
     have A13 := ah.mk U5
     clear U5
     simp only [Option.some.injEq, Prod.mk.injEq] at H
     obtain ⟨rfl, rfl⟩ := H
     go_enter Try.func67, Try.ntmps67
     go_wp2_with (first | ((with_reducible refine aV (f := 63) rfl ?_); refine cZ (some 21) rfl rfl Try.func63 (by kernel_rfl) rfl #[.int .i64 a0, .int .i64 a1] rfl (by (try simp only [List.map_toArray, List.map_cons, List.map_nil]); first | done | rfl | (simp only [List.length_drop, List.length_take]; rfl)) ?_; (with_reducible refine (fJ.calls a0 a1 t166 t167 t168 _ A3.out).mono ?_); rintro e U6 ⟨rfl, hb⟩; refine ⟨_, rfl, ?_⟩; have bT := ah.mk (aI (by repeat (first | (with_reducible first | exact HB.out | apply au | apply af | apply ak) | exact HB.out)) hb); clear HB; have HB := bT; clear bT; (try clear hb); (try clear hb2); (try clear hk); (try clear hi)) | ((with_reducible refine aV (f := 65) rfl ?_); refine cZ (some 39) rfl rfl Try.func65 (by kernel_rfl) rfl #[.int .i64 t166] rfl (by (try simp only [List.map_toArray, List.map_cons, List.map_nil]); first | done | rfl | (simp only [List.length_drop, List.length_take]; rfl)) ?_; (with_reducible refine (dO.calls t166 t169 _ X3.out).mono ?_); rintro e w' ⟨rfl, ⟨nd, rfl⟩⟩; refine ⟨_, rfl, ?_⟩) | ((with_reducible refine aV (f := 65) rfl ?_); refine cZ (some 41) rfl rfl Try.func65 (by kernel_rfl) rfl #[.int .i64 t167] rfl (by (try simp only [List.map_toArray, List.map_cons, List.map_nil]); first | done | rfl | (simp only [List.length_drop, List.length_take]; rfl)) ?_; (with_reducible refine (dO.calls t167 t170 _ X0.out).mono ?_); rintro e w' ⟨rfl, ⟨nd, rfl⟩⟩; refine ⟨_, rfl, ?_⟩) | ((with_reducible refine aV (f := 66) rfl ?_); refine cZ (some 51) rfl rfl Try.func66 (by kernel_rfl) rfl #[.int .u64 1, .int .u64 0, .bool ((decide (t166 < 0)) != (decide (t167 < 0)))] rfl (by (try simp only [List.map_toArray, List.map_cons, List.map_nil]); first | done | rfl | (simp only [List.length_drop, List.length_take]; rfl)) ?_; (with_reducible refine (bF.calls 1 0 ((decide (t166 < 0)) != (decide (t167 < 0))) t171 t172 _ A13.out).mono ?_); rintro e w15 ⟨rfl, hb⟩; refine ⟨_, rfl, ?_⟩; have bT := ah.mk (aI (by repeat (first | (with_reducible first | exact HB.out | apply au | apply af | apply ak) | exact HB.out)) hb); clear HB; have HB := bT; clear bT; (try clear hb); (try clear hb2); (try clear hk); (try clear hi)))
     go_ret2
     exact ⟨by first | rfl | (simp [aU, aT] <;> rfl) | (simp [*, aU, aT] <;> rfl), by repeat (first | (with_reducible first | exact HB.out | apply au | apply af | apply ak) | exact HB.out)⟩
   · rw [if_neg c12] at H
     have Ut : decide (t170 ≤ (t169 / 1099511627776)) = false := decide_eq_false c12
     clear c12
     replace H := Option.bind_eq_some_iff.mp H
     obtain ⟨⟨t173, t174⟩, GK, H⟩ := H
     replace H : (if t174 > (IntKind.u64.wrap (t170 - t174)) then ((bF.f 0 (IntKind.u64.wrap (t173 + 1)) ((decide (t166 < 0)) != (decide (t167 < 0)))).bind fun og => (if t168 = true then (some (og.1, true)) else (some (og.1, og.2)))) else (if t174 = (IntKind.u64.wrap (t170 - t174)) then (if (Go.bits .and .u64 t173 1) = 1 then ((bF.f 0 (IntKind.u64.wrap (t173 + 1)) ((decide (t166 < 0)) != (decide (t167 < 0)))).bind fun n_ => (if t168 = true then (some (n_.1, true)) else (some (n_.1, n_.2)))) else ((bF.f 0 t173 ((decide (t166 < 0)) != (decide (t167 < 0)))).bind fun nZ => (if t168 = true then (some (nZ.1, true)) else (some (nZ.1, nZ.2))))) else ((bF.f 0 t173 ((decide (t166 < 0)) != (decide (t167 < 0)))).bind fun nY => (if t168 = true then (some (nY.1, true)) else (some (nY.1, nY.2)))))) = some (r1, r2) := H
     have J3 := ah.mk GK
     clear GK
     by_cases c17 : t174 > (IntKind.u64.wrap (t170 - t174))
     · rw [if_pos c17] at H
       have Us : decide ((IntKind.u64.wrap (t170 - t174)) < t174) = true := decide_eq_true c17
       clear c17
       replace H := Option.bind_eq_some_iff.mp H
       obtain ⟨⟨t175, t176⟩, adx, H⟩ := H
       replace H : (if t168 = true then (some (t175, true)) else (some (t175, t176))) = some (r1, r2) := H
       have A18 := ah.mk adx
       clear adx
       by_cases c19 : t168 = true
       · subst c19
         rw [if_pos rfl] at H
         simp only [Option.some.injEq, Prod.mk.injEq] at H
         obtain ⟨rfl, rfl⟩ := H
         go_enter Try.func67, Try.ntmps67
         go_wp2_with (first | ((with_reducible refine aV (f := 63) rfl ?_); refine cZ (some 21) rfl rfl Try.func63 (by kernel_rfl) rfl #[.int .i64 a0, .int .i64 a1] rfl (by (try simp only [List.map_toArray, List.map_cons, List.map_nil]); first | done | rfl | (simp only [List.length_drop, List.length_take]; rfl)) ?_; (with_reducible refine (fJ.calls a0 a1 t166 t167 true _ A3.out).mono ?_); rintro e w20 ⟨rfl, hb⟩; refine ⟨_, rfl, ?_⟩; have bT := ah.mk (aI (by repeat (first | (with_reducible first | exact HB.out | apply au | apply af | apply ak) | exact HB.out)) hb); clear HB; have HB := bT; clear bT; (try clear hb); (try clear hb2); (try clear hk); (try clear hi)) | ((with_reducible refine aV (f := 65) rfl ?_); refine cZ (some 39) rfl rfl Try.func65 (by kernel_rfl) rfl #[.int .i64 t166] rfl (by (try simp only [List.map_toArray, List.map_cons, List.map_nil]); first | done | rfl | (simp only [List.length_drop, List.length_take]; rfl)) ?_; (with_reducible refine (dO.calls t166 t169 _ X3.out).mono ?_); rintro e w' ⟨rfl, ⟨nd, rfl⟩⟩; refine ⟨_, rfl, ?_⟩) | ((with_reducible refine aV (f := 65) rfl ?_); refine cZ (some 41) rfl rfl Try.func65 (by kernel_rfl) rfl #[.int .i64 t167] rfl (by (try simp only [List.map_toArray, List.map_cons, List.map_nil]); first | done | rfl | (simp only [List.length_drop, List.length_take]; rfl)) ?_; (with_reducible refine (dO.calls t167 t170 _ X0.out).mono ?_); rintro e w' ⟨rfl, ⟨nd, rfl⟩⟩; refine ⟨_, rfl, ?_⟩) | ((with_reducible refine aV (f := 88) rfl ?_); refine cZ (some 59) rfl rfl Try.func88 (by kernel_rfl) rfl #[.int .u64 (t169 / 1099511627776), .int .u64 (IntKind.u64.wrap (t169 * 16777216)), .int .u64 t170] rfl (by (try simp only [List.map_toArray, List.map_cons, List.map_nil]); first | done | rfl | (simp only [List.length_drop, List.length_take]; rfl)) ?_; (with_reducible refine (bC.calls k (t169 / 1099511627776) (IntKind.u64.wrap (t169 * 16777216)) t170 t173 t174 _ J3.out).mono ?_); rintro e w' ⟨rfl, ⟨nd, rfl⟩⟩; refine ⟨_, rfl, ?_⟩) | ((with_reducible refine aV (f := 66) rfl ?_); refine cZ (some 84) rfl rfl Try.func66 (by kernel_rfl) rfl #[.int .u64 0, .int .u64 (IntKind.u64.wrap (t173 + 1)), .bool ((decide (t166 < 0)) != (decide (t167 < 0)))] rfl (by (try simp only [List.map_toArray, List.map_cons, List.map_nil]); first | done | rfl | (simp only [List.length_drop, List.length_take]; rfl)) ?_; (with_reducible refine (bF.calls 0 (IntKind.u64.wrap (t173 + 1)) ((decide (t166 < 0)) != (decide (t167 < 0))) t175 t176 _ A18.out).mono ?_); rintro e U9 ⟨rfl, hb⟩; refine ⟨_, rfl, ?_⟩; have bT := ah.mk (aI (by repeat (first | (with_reducible first | exact HB.out | apply au | apply af | apply ak) | exact HB.out)) hb); clear HB; have HB := bT; clear bT; (try clear hb); (try clear hb2); (try clear hk); (try clear hi)))
         go_ret2
         exact ⟨by first | rfl | (simp [aU, aT] <;> rfl) | (simp [*, aU, aT] <;> rfl), by repeat (first | (with_reducible first | exact HB.out | apply au | apply af | apply ak) | exact HB.out)⟩
       · replace c19 := Bool.eq_false_iff.mpr c19
         subst c19
         have H1 : (some (t175, t176)) = some (r1, r2) := by rw [if_neg (show ¬ (false = true) by decide)] at H; exact H
         clear H
         have H := H1
         clear H1
         simp only [Option.some.injEq, Prod.mk.injEq] at H
         obtain ⟨rfl, rfl⟩ := H
         go_enter Try.func67, Try.ntmps67
         go_wp2_with (first | ((with_reducible refine aV (f := 63) rfl ?_); refine cZ (some 21) rfl rfl Try.func63 (by kernel_rfl) rfl #[.int .i64 a0, .int .i64 a1] rfl (by (try simp only [List.map_toArray, List.map_cons, List.map_nil]); first | done | rfl | (simp only [List.length_drop, List.length_take]; rfl)) ?_; (with_reducible refine (fJ.calls a0 a1 t166 t167 false _ A3.out).mono ?_); rintro e w22 ⟨rfl, hb⟩; refine ⟨_, rfl, ?_⟩; have bT := ah.mk (aI (by repeat (first | (with_reducible first | exact HB.out | apply au | apply af | apply ak) | exact HB.out)) hb); clear HB; have HB := bT; clear bT; (try clear hb); (try clear hb2); (try clear hk); (try clear hi)) | ((with_reducible refine aV (f := 65) rfl ?_); refine cZ (some 39) rfl rfl Try.func65 (by kernel_rfl) rfl #[.int .i64 t166] rfl (by (try simp only [List.map_toArray, List.map_cons, List.map_nil]); first | done | rfl | (simp only [List.length_drop, List.length_take]; rfl)) ?_; (with_reducible refine (dO.calls t166 t169 _ X3.out).mono ?_); rintro e w' ⟨rfl, ⟨nd, rfl⟩⟩; refine ⟨_, rfl, ?_⟩) | ((with_reducible refine aV (f := 65) rfl ?_); refine cZ (some 41) rfl rfl Try.func65 (by kernel_rfl) rfl #[.int .i64 t167] rfl (by (try simp only [List.map_toArray, List.map_cons, List.map_nil]); first | done | rfl | (simp only [List.length_drop, List.length_take]; rfl)) ?_; (with_reducible refine (dO.calls t167 t170 _ X0.out).mono ?_); rintro e w' ⟨rfl, ⟨nd, rfl⟩⟩; refine ⟨_, rfl, ?_⟩) | ((with_reducible refine aV (f := 88) rfl ?_); refine cZ (some 59) rfl rfl Try.func88 (by kernel_rfl) rfl #[.int .u64 (t169 / 1099511627776), .int .u64 (IntKind.u64.wrap (t169 * 16777216)), .int .u64 t170] rfl (by (try simp only [List.map_toArray, List.map_cons, List.map_nil]); first | done | rfl | (simp only [List.length_drop, List.length_take]; rfl)) ?_; (with_reducible refine (bC.calls k (t169 / 1099511627776) (IntKind.u64.wrap (t169 * 16777216)) t170 t173 t174 _ J3.out).mono ?_); rintro e w' ⟨rfl, ⟨nd, rfl⟩⟩; refine ⟨_, rfl, ?_⟩) | ((with_reducible refine aV (f := 66) rfl ?_); refine cZ (some 84) rfl rfl Try.func66 (by kernel_rfl) rfl #[.int .u64 0, .int .u64 (IntKind.u64.wrap (t173 + 1)), .bool ((decide (t166 < 0)) != (decide (t167 < 0)))] rfl (by (try simp only [List.map_toArray, List.map_cons, List.map_nil]); first | done | rfl | (simp only [List.length_drop, List.length_take]; rfl)) ?_; (with_reducible refine (bF.calls 0 (IntKind.u64.wrap (t173 + 1)) ((decide (t166 < 0)) != (decide (t167 < 0))) t175 t176 _ A18.out).mono ?_); rintro e w23 ⟨rfl, hb⟩; refine ⟨_, rfl, ?_⟩; have bT := ah.mk (aI (by repeat (first | (with_reducible first | exact HB.out | apply au | apply af | apply ak) | exact HB.out)) hb); clear HB; have HB := bT; clear bT; (try clear hb); (try clear hb2); (try clear hk); (try clear hi)))
         go_ret2
         exact ⟨by first | rfl | (simp [aU, aT] <;> rfl) | (simp [*, aU, aT] <;> rfl), by repeat (first | (with_reducible first | exact HB.out | apply au | apply af | apply ak) | exact HB.out)⟩
     · rw [if_neg c17] at H
       have Us : decide ((IntKind.u64.wrap (t170 - t174)) < t174) = false := decide_eq_false c17
       clear c17
       by_cases c24 : t174 = (IntKind.u64.wrap (t170 - t174))
       · rw [if_pos c24] at H
         have LU : (t174 == (IntKind.u64.wrap (t170 - t174))) = true := beq_iff_eq.mpr c24
         have Qm : (t174 != (IntKind.u64.wrap (t170 - t174))) = false := bne_eq_false_iff_eq.mpr c24
         clear c24
         by_cases c25 : (Go.bits .and .u64 t173 1) = 1
         · rw [if_pos c25] at H
           have abM : ((Go.bits .and .u64 t173 1) == 1) = true := beq_iff_eq.mpr c25
           have abL : ((Go.bits .and .u64 t173 1) != 1) = false := bne_eq_false_iff_eq.mpr c25
           clear c25
           replace H := Option.bind_eq_some_iff.mp H
           obtain ⟨⟨t177, t178⟩, adu, H⟩ := H
           replace H : (if t168 = true then (some (t177, true)) else (some (t177, t178))) = some (r1, r2) := H
           have A26 := ah.mk adu
           clear adu
           by_cases XF : t168 = true
           · subst XF
             rw [if_pos rfl] at H
             simp only [Option.some.injEq, Prod.mk.injEq] at H
             obtain ⟨rfl, rfl⟩ := H
             go_enter Try.func67, Try.ntmps67
             go_wp2_with (first | ((with_reducible refine aV (f := 63) rfl ?_); refine cZ (some 21) rfl rfl Try.func63 (by kernel_rfl) rfl #[.int .i64 a0, .int .i64 a1] rfl (by (try simp only [List.map_toArray, List.map_cons, List.map_nil]); first | done | rfl | (simp only [List.length_drop, List.length_take]; rfl)) ?_; (with_reducible refine (fJ.calls a0 a1 t166 t167 true _ A3.out).mono ?_); rintro e w28 ⟨rfl, hb⟩; refine ⟨_, rfl, ?_⟩; have bT := ah.mk (aI (by repeat (first | (with_reducible first | exact HB.out | apply au | apply af | apply ak) | exact HB.out)) hb); clear HB; have HB := bT; clear bT; (try clear hb); (try clear hb2); (try clear hk); (try clear hi)) | ((with_reducible refine aV (f := 65) rfl ?_); refine cZ (some 39) rfl rfl Try.func65 (by kernel_rfl) rfl #[.int .i64 t166] rfl (by (try simp only [List.map_toArray, List.map_cons, List.map_nil]); first | done | rfl | (simp only [List.length_drop, List.length_take]; rfl)) ?_; (with_reducible refine (dO.calls t166 t169 _ X3.out).mono ?_); rintro e w' ⟨rfl, ⟨nd, rfl⟩⟩; refine ⟨_, rfl, ?_⟩) | ((with_reducible refine aV (f := 65) rfl ?_); refine cZ (some 41) rfl rfl Try.func65 (by kernel_rfl) rfl #[.int .i64 t167] rfl (by (try simp only [List.map_toArray, List.map_cons, List.map_nil]); first | done | rfl | (simp only [List.length_drop, List.length_take]; rfl)) ?_; (with_reducible refine (dO.calls t167 t170 _ X0.out).mono ?_); rintro e w' ⟨rfl, ⟨nd, rfl⟩⟩; refine ⟨_, rfl, ?_⟩) | ((with_reducible refine aV (f := 88) rfl ?_); refine cZ (some 59) rfl rfl Try.func88 (by kernel_rfl) rfl #[.int .u64 (t169 / 1099511627776), .int .u64 (IntKind.u64.wrap (t169 * 16777216)), .int .u64 t170] rfl (by (try simp only [List.map_toArray, List.map_cons, List.map_nil]); first | done | rfl | (simp only [List.length_drop, List.length_take]; rfl)) ?_; (with_reducible refine (bC.calls k (t169 / 1099511627776) (IntKind.u64.wrap (t169 * 16777216)) t170 t173 t174 _ J3.out).mono ?_); rintro e w' ⟨rfl, ⟨nd, rfl⟩⟩; refine ⟨_, rfl, ?_⟩) | ((with_reducible refine aV (f := 66) rfl ?_); refine cZ (some 84) rfl rfl Try.func66 (by kernel_rfl) rfl #[.int .u64 0, .int .u64 (IntKind.u64.wrap (t173 + 1)), .bool ((decide (t166 < 0)) != (decide (t167 < 0)))] rfl (by (try simp only [List.map_toArray, List.map_cons, List.map_nil]); first | done | rfl | (simp only [List.length_drop, List.length_take]; rfl)) ?_; (with_reducible refine (bF.calls 0 (IntKind.u64.wrap (t173 + 1)) ((decide (t166 < 0)) != (decide (t167 < 0))) t177 t178 _ A26.out).mono ?_); rintro e X6 ⟨rfl, hb⟩; refine ⟨_, rfl, ?_⟩; have bT := ah.mk (aI (by repeat (first | (with_reducible first | exact HB.out | apply au | apply af | apply ak) | exact HB.out)) hb); clear HB; have HB := bT; clear bT; (try clear hb); (try clear hb2); (try clear hk); (try clear hi)))
             go_ret2
             exact ⟨by first | rfl | (simp [aU, aT] <;> rfl) | (simp [*, aU, aT] <;> rfl), by repeat (first | (with_reducible first | exact HB.out | apply au | apply af | apply ak) | exact HB.out)⟩
           · replace XF := Bool.eq_false_iff.mpr XF
             subst XF
             have H1 : (some (t177, t178)) = some (r1, r2) := by rw [if_neg (show ¬ (false = true) by decide)] at H; exact H
             clear H
             have H := H1
             clear H1
             simp only [Option.some.injEq, Prod.mk.injEq] at H
             obtain ⟨rfl, rfl⟩ := H
             go_enter Try.func67, Try.ntmps67
             go_wp2_with (first | ((with_reducible refine aV (f := 63) rfl ?_); refine cZ (some 21) rfl rfl Try.func63 (by kernel_rfl) rfl #[.int .i64 a0, .int .i64 a1] rfl (by (try simp only [List.map_toArray, List.map_cons, List.map_nil]); first | done | rfl | (simp only [List.length_drop, List.length_take]; rfl)) ?_; (with_reducible refine (fJ.calls a0 a1 t166 t167 false _ A3.out).mono ?_); rintro e MP ⟨rfl, hb⟩; refine ⟨_, rfl, ?_⟩; have bT := ah.mk (aI (by repeat (first | (with_reducible first | exact HB.out | apply au | apply af | apply ak) | exact HB.out)) hb); clear HB; have HB := bT; clear bT; (try clear hb); (try clear hb2); (try clear hk); (try clear hi)) | ((with_reducible refine aV (f := 65) rfl ?_); refine cZ (some 39) rfl rfl Try.func65 (by kernel_rfl) rfl #[.int .i64 t166] rfl (by (try simp only [List.map_toArray, List.map_cons, List.map_nil]); first | done | rfl | (simp only [List.length_drop, List.length_take]; rfl)) ?_; (with_reducible refine (dO.calls t166 t169 _ X3.out).mono ?_); rintro e w' ⟨rfl, ⟨nd, rfl⟩⟩; refine ⟨_, rfl, ?_⟩) | ((with_reducible refine aV (f := 65) rfl ?_); refine cZ (some 41) rfl rfl Try.func65 (by kernel_rfl) rfl #[.int .i64 t167] rfl (by (try simp only [List.map_toArray, List.map_cons, List.map_nil]); first | done | rfl | (simp only [List.length_drop, List.length_take]; rfl)) ?_; (with_reducible refine (dO.calls t167 t170 _ X0.out).mono ?_); rintro e w' ⟨rfl, ⟨nd, rfl⟩⟩; refine ⟨_, rfl, ?_⟩) | ((with_reducible refine aV (f := 88) rfl ?_); refine cZ (some 59) rfl rfl Try.func88 (by kernel_rfl) rfl #[.int .u64 (t169 / 1099511627776), .int .u64 (IntKind.u64.wrap (t169 * 16777216)), .int .u64 t170] rfl (by (try simp only [List.map_toArray, List.map_cons, List.map_nil]); first | done | rfl | (simp only [List.length_drop, List.length_take]; rfl)) ?_; (with_reducible refine (bC.calls k (t169 / 1099511627776) (IntKind.u64.wrap (t169 * 16777216)) t170 t173 t174 _ J3.out).mono ?_); rintro e w' ⟨rfl, ⟨nd, rfl⟩⟩; refine ⟨_, rfl, ?_⟩) | ((with_reducible refine aV (f := 66) rfl ?_); refine cZ (some 84) rfl rfl Try.func66 (by kernel_rfl) rfl #[.int .u64 0, .int .u64 (IntKind.u64.wrap (t173 + 1)), .bool ((decide (t166 < 0)) != (decide (t167 < 0)))] rfl (by (try simp only [List.map_toArray, List.map_cons, List.map_nil]); first | done | rfl | (simp only [List.length_drop, List.length_take]; rfl)) ?_; (with_reducible refine (bF.calls 0 (IntKind.u64.wrap (t173 + 1)) ((decide (t166 < 0)) != (decide (t167 < 0))) t177 t178 _ A26.out).mono ?_); rintro e w31 ⟨rfl, hb⟩; refine ⟨_, rfl, ?_⟩; have bT := ah.mk (aI (by repeat (first | (with_reducible first | exact HB.out | apply au | apply af | apply ak) | exact HB.out)) hb); clear HB; have HB := bT; clear bT; (try clear hb); (try clear hb2); (try clear hk); (try clear hi)))
             go_ret2
             exact ⟨by first | rfl | (simp [aU, aT] <;> rfl) | (simp [*, aU, aT] <;> rfl), by repeat (first | (with_reducible first | exact HB.out | apply au | apply af | apply ak) | exact HB.out)⟩
         · rw [if_neg c25] at H
           have abM : ((Go.bits .and .u64 t173 1) == 1) = false := beq_eq_false_iff_ne.mpr c25
           have abL : ((Go.bits .and .u64 t173 1) != 1) = true := bne_iff_ne.mpr c25
           replace H := Option.bind_eq_some_iff.mp H
           obtain ⟨⟨t179, t180⟩, ads, H⟩ := H
           replace H : (if t168 = true then (some (t179, true)) else (some (t179, t180))) = some (r1, r2) := H
           have A32 := ah.mk ads
           clear ads
           by_cases SB : t168 = true
           · subst SB
             rw [if_pos rfl] at H
             simp only [Option.some.injEq, Prod.mk.injEq] at H
             obtain ⟨rfl, rfl⟩ := H
             go_enter Try.func67, Try.ntmps67
             go_wp2_with (first | ((with_reducible refine aV (f := 63) rfl ?_); refine cZ (some 21) rfl rfl Try.func63 (by kernel_rfl) rfl #[.int .i64 a0, .int .i64 a1] rfl (by (try simp only [List.map_toArray, List.map_cons, List.map_nil]); first | done | rfl | (simp only [List.length_drop, List.length_take]; rfl)) ?_; (with_reducible refine (fJ.calls a0 a1 t166 t167 true _ A3.out).mono ?_); rintro e w34 ⟨rfl, hb⟩; refine ⟨_, rfl, ?_⟩; have bT := ah.mk (aI (by repeat (first | (with_reducible first | exact HB.out | apply au | apply af | apply ak) | exact HB.out)) hb); clear HB; have HB := bT; clear bT; (try clear hb); (try clear hb2); (try clear hk); (try clear hi)) | ((with_reducible refine aV (f := 65) rfl ?_); refine cZ (some 39) rfl rfl Try.func65 (by kernel_rfl) rfl #[.int .i64 t166] rfl (by (try simp only [List.map_toArray, List.map_cons, List.map_nil]); first | done | rfl | (simp only [List.length_drop, List.length_take]; rfl)) ?_; (with_reducible refine (dO.calls t166 t169 _ X3.out).mono ?_); rintro e w' ⟨rfl, ⟨nd, rfl⟩⟩; refine ⟨_, rfl, ?_⟩) | ((with_reducible refine aV (f := 65) rfl ?_); refine cZ (some 41) rfl rfl Try.func65 (by kernel_rfl) rfl #[.int .i64 t167] rfl (by (try simp only [List.map_toArray, List.map_cons, List.map_nil]); first | done | rfl | (simp only [List.length_drop, List.length_take]; rfl)) ?_; (with_reducible refine (dO.calls t167 t170 _ X0.out).mono ?_); rintro e w' ⟨rfl, ⟨nd, rfl⟩⟩; refine ⟨_, rfl, ?_⟩) | ((with_reducible refine aV (f := 88) rfl ?_); refine cZ (some 59) rfl rfl Try.func88 (by kernel_rfl) rfl #[.int .u64 (t169 / 1099511627776), .int .u64 (IntKind.u64.wrap (t169 * 16777216)), .int .u64 t170] rfl (by (try simp only [List.map_toArray, List.map_cons, List.map_nil]); first | done | rfl | (simp only [List.length_drop, List.length_take]; rfl)) ?_; (with_reducible refine (bC.calls k (t169 / 1099511627776) (IntKind.u64.wrap (t169 * 16777216)) t170 t173 t174 _ J3.out).mono ?_); rintro e w' ⟨rfl, ⟨nd, rfl⟩⟩; refine ⟨_, rfl, ?_⟩) | ((with_reducible refine aV (f := 66) rfl ?_); refine cZ (some 84) rfl rfl Try.func66 (by kernel_rfl) rfl #[.int .u64 0, .int .u64 t173, .bool ((decide (t166 < 0)) != (decide (t167 < 0)))] rfl (by (try simp only [List.map_toArray, List.map_cons, List.map_nil]); first | done | rfl | (simp only [List.length_drop, List.length_take]; rfl)) ?_; (with_reducible refine (bF.calls 0 t173 ((decide (t166 < 0)) != (decide (t167 < 0))) t179 t180 _ A32.out).mono ?_); rintro e U8 ⟨rfl, hb⟩; refine ⟨_, rfl, ?_⟩; have bT := ah.mk (aI (by repeat (first | (with_reducible first | exact HB.out | apply au | apply af | apply ak) | exact HB.out)) hb); clear HB; have HB := bT; clear bT; (try clear hb); (try clear hb2); (try clear hk); (try clear hi)))
             go_ret2
             exact ⟨by first | rfl | (simp [aU, aT] <;> rfl) | (simp [*, aU, aT] <;> rfl), by repeat (first | (with_reducible first | exact HB.out | apply au | apply af | apply ak) | exact HB.out)⟩
           · replace SB := Bool.eq_false_iff.mpr SB
             subst SB
             have H1 : (some (t179, t180)) = some (r1, r2) := by rw [if_neg (show ¬ (false = true) by decide)] at H; exact H
             clear H
             have H := H1
             clear H1
             simp only [Option.some.injEq, Prod.mk.injEq] at H
             obtain ⟨rfl, rfl⟩ := H
             go_enter Try.func67, Try.ntmps67
             go_wp2_with (first | ((with_reducible refine aV (f := 63) rfl ?_); refine cZ (some 21) rfl rfl Try.func63 (by kernel_rfl) rfl #[.int .i64 a0, .int .i64 a1] rfl (by (try simp only [List.map_toArray, List.map_cons, List.map_nil]); first | done | rfl | (simp only [List.length_drop, List.length_take]; rfl)) ?_; (with_reducible refine (fJ.calls a0 a1 t166 t167 false _ A3.out).mono ?_); rintro e w36 ⟨rfl, hb⟩; refine ⟨_, rfl, ?_⟩; have bT := ah.mk (aI (by repeat (first | (with_reducible first | exact HB.out | apply au | apply af | apply ak) | exact HB.out)) hb); clear HB; have HB := bT; clear bT; (try clear hb); (try clear hb2); (try clear hk); (try clear hi)) | ((with_reducible refine aV (f := 65) rfl ?_); refine cZ (some 39) rfl rfl Try.func65 (by kernel_rfl) rfl #[.int .i64 t166] rfl (by (try simp only [List.map_toArray, List.map_cons, List.map_nil]); first | done | rfl | (simp only [List.length_drop, List.length_take]; rfl)) ?_; (with_reducible refine (dO.calls t166 t169 _ X3.out).mono ?_); rintro e w' ⟨rfl, ⟨nd, rfl⟩⟩; refine ⟨_, rfl, ?_⟩) | ((with_reducible refine aV (f := 65) rfl ?_); refine cZ (some 41) rfl rfl Try.func65 (by kernel_rfl) rfl #[.int .i64 t167] rfl (by (try simp only [List.map_toArray, List.map_cons, List.map_nil]); first | done | rfl | (simp only [List.length_drop, List.length_take]; rfl)) ?_; (with_reducible refine (dO.calls t167 t170 _ X0.out).mono ?_); rintro e w' ⟨rfl, ⟨nd, rfl⟩⟩; refine ⟨_, rfl, ?_⟩) | ((with_reducible refine aV (f := 88) rfl ?_); refine cZ (some 59) rfl rfl Try.func88 (by kernel_rfl) rfl #[.int .u64 (t169 / 1099511627776), .int .u64 (IntKind.u64.wrap (t169 * 16777216)), .int .u64 t170] rfl (by (try simp only [List.map_toArray, List.map_cons, List.map_nil]); first | done | rfl | (simp only [List.length_drop, List.length_take]; rfl)) ?_; (with_reducible refine (bC.calls k (t169 / 1099511627776) (IntKind.u64.wrap (t169 * 16777216)) t170 t173 t174 _ J3.out).mono ?_); rintro e w' ⟨rfl, ⟨nd, rfl⟩⟩; refine ⟨_, rfl, ?_⟩) | ((with_reducible refine aV (f := 66) rfl ?_); refine cZ (some 84) rfl rfl Try.func66 (by kernel_rfl) rfl #[.int .u64 0, .int .u64 t173, .bool ((decide (t166 < 0)) != (decide (t167 < 0)))] rfl (by (try simp only [List.map_toArray, List.map_cons, List.map_nil]); first | done | rfl | (simp only [List.length_drop, List.length_take]; rfl)) ?_; (with_reducible refine (bF.calls 0 t173 ((decide (t166 < 0)) != (decide (t167 < 0))) t179 t180 _ A32.out).mono ?_); rintro e w37 ⟨rfl, hb⟩; refine ⟨_, rfl, ?_⟩; have bT := ah.mk (aI (by repeat (first | (with_reducible first | exact HB.out | apply au | apply af | apply ak) | exact HB.out)) hb); clear HB; have HB := bT; clear bT; (try clear hb); (try clear hb2); (try clear hk); (try clear hi)))
             go_ret2
             exact ⟨by first | rfl | (simp [aU, aT] <;> rfl) | (simp [*, aU, aT] <;> rfl), by repeat (first | (with_reducible first | exact HB.out | apply au | apply af | apply ak) | exact HB.out)⟩
       · rw [if_neg c24] at H
         have LU : (t174 == (IntKind.u64.wrap (t170 - t174))) = false := beq_eq_false_iff_ne.mpr c24
         have Qm : (t174 != (IntKind.u64.wrap (t170 - t174))) = true := bne_iff_ne.mpr c24
         replace H := Option.bind_eq_some_iff.mp H
         obtain ⟨⟨t181, t182⟩, adr, H⟩ := H
         replace H : (if t168 = true then (some (t181, true)) else (some (t181, t182))) = some (r1, r2) := H
         have A38 := ah.mk adr
         clear adr
         by_cases Ur : t168 = true
         · subst Ur
           rw [if_pos rfl] at H
           simp only [Option.some.injEq, Prod.mk.injEq] at H
           obtain ⟨rfl, rfl⟩ := H
           go_enter Try.func67, Try.ntmps67
           go_wp2_with (first | ((with_reducible refine aV (f := 63) rfl ?_); refine cZ (some 21) rfl rfl Try.func63 (by kernel_rfl) rfl #[.int .i64 a0, .int .i64 a1] rfl (by (try simp only [List.map_toArray, List.map_cons, List.map_nil]); first | done | rfl | (simp only [List.length_drop, List.length_take]; rfl)) ?_; (with_reducible refine (fJ.calls a0 a1 t166 t167 true _ A3.out).mono ?_); rintro e w40 ⟨rfl, hb⟩; refine ⟨_, rfl, ?_⟩; have bT := ah.mk (aI (by repeat (first | (with_reducible first | exact HB.out | apply au | apply af | apply ak) | exact HB.out)) hb); clear HB; have HB := bT; clear bT; (try clear hb); (try clear hb2); (try clear hk); (try clear hi)) | ((with_reducible refine aV (f := 65) rfl ?_); refine cZ (some 39) rfl rfl Try.func65 (by kernel_rfl) rfl #[.int .i64 t166] rfl (by (try simp only [List.map_toArray, List.map_cons, List.map_nil]); first | done | rfl | (simp only [List.length_drop, List.length_take]; rfl)) ?_; (with_reducible refine (dO.calls t166 t169 _ X3.out).mono ?_); rintro e w' ⟨rfl, ⟨nd, rfl⟩⟩; refine ⟨_, rfl, ?_⟩) | ((with_reducible refine aV (f := 65) rfl ?_); refine cZ (some 41) rfl rfl Try.func65 (by kernel_rfl) rfl #[.int .i64 t167] rfl (by (try simp only [List.map_toArray, List.map_cons, List.map_nil]); first | done | rfl | (simp only [List.length_drop, List.length_take]; rfl)) ?_; (with_reducible refine (dO.calls t167 t170 _ X0.out).mono ?_); rintro e w' ⟨rfl, ⟨nd, rfl⟩⟩; refine ⟨_, rfl, ?_⟩) | ((with_reducible refine aV (f := 88) rfl ?_); refine cZ (some 59) rfl rfl Try.func88 (by kernel_rfl) rfl #[.int .u64 (t169 / 1099511627776), .int .u64 (IntKind.u64.wrap (t169 * 16777216)), .int .u64 t170] rfl (by (try simp only [List.map_toArray, List.map_cons, List.map_nil]); first | done | rfl | (simp only [List.length_drop, List.length_take]; rfl)) ?_; (with_reducible refine (bC.calls k (t169 / 1099511627776) (IntKind.u64.wrap (t169 * 16777216)) t170 t173 t174 _ J3.out).mono ?_); rintro e w' ⟨rfl, ⟨nd, rfl⟩⟩; refine ⟨_, rfl, ?_⟩) | ((with_reducible refine aV (f := 66) rfl ?_); refine cZ (some 84) rfl rfl Try.func66 (by kernel_rfl) rfl #[.int .u64 0, .int .u64 t173, .bool ((decide (t166 < 0)) != (decide (t167 < 0)))] rfl (by (try simp only [List.map_toArray, List.map_cons, List.map_nil]); first | done | rfl | (simp only [List.length_drop, List.length_take]; rfl)) ?_; (with_reducible refine (bF.calls 0 t173 ((decide (t166 < 0)) != (decide (t167 < 0))) t181 t182 _ A38.out).mono ?_); rintro e w41 ⟨rfl, hb⟩; refine ⟨_, rfl, ?_⟩; have bT := ah.mk (aI (by repeat (first | (with_reducible first | exact HB.out | apply au | apply af | apply ak) | exact HB.out)) hb); clear HB; have HB := bT; clear bT; (try clear hb); (try clear hb2); (try clear hk); (try clear hi)))
           go_ret2
           exact ⟨by first | rfl | (simp [aU, aT] <;> rfl) | (simp [*, aU, aT] <;> rfl), by repeat (first | (with_reducible first | exact HB.out | apply au | apply af | apply ak) | exact HB.out)⟩
         · replace Ur := Bool.eq_false_iff.mpr Ur
           subst Ur
           have H1 : (some (t181, t182)) = some (r1, r2) := by rw [if_neg (show ¬ (false = true) by decide)] at H; exact H
           clear H
           have H := H1
           clear H1
           simp only [Option.some.injEq, Prod.mk.injEq] at H
           obtain ⟨rfl, rfl⟩ := H
           go_enter Try.func67, Try.ntmps67
           go_wp2_with (first | ((with_reducible refine aV (f := 63) rfl ?_); refine cZ (some 21) rfl rfl Try.func63 (by kernel_rfl) rfl #[.int .i64 a0, .int .i64 a1] rfl (by (try simp only [List.map_toArray, List.map_cons, List.map_nil]); first | done | rfl | (simp only [List.length_drop, List.length_take]; rfl)) ?_; (with_reducible refine (fJ.calls a0 a1 t166 t167 false _ A3.out).mono ?_); rintro e w42 ⟨rfl, hb⟩; refine ⟨_, rfl, ?_⟩; have bT := ah.mk (aI (by repeat (first | (with_reducible first | exact HB.out | apply au | apply af | apply ak) | exact HB.out)) hb); clear HB; have HB := bT; clear bT; (try clear hb); (try clear hb2); (try clear hk); (try clear hi)) | ((with_reducible refine aV (f := 65) rfl ?_); refine cZ (some 39) rfl rfl Try.func65 (by kernel_rfl) rfl #[.int .i64 t166] rfl (by (try simp only [List.map_toArray, List.map_cons, List.map_nil]); first | done | rfl | (simp only [List.length_drop, List.length_take]; rfl)) ?_; (with_reducible refine (dO.calls t166 t169 _ X3.out).mono ?_); rintro e w' ⟨rfl, ⟨nd, rfl⟩⟩; refine ⟨_, rfl, ?_⟩) | ((with_reducible refine aV (f := 65) rfl ?_); refine cZ (some 41) rfl rfl Try.func65 (by kernel_rfl) rfl #[.int .i64 t167] rfl (by (try simp only [List.map_toArray, List.map_cons, List.map_nil]); first | done | rfl | (simp only [List.length_drop, List.length_take]; rfl)) ?_; (with_reducible refine (dO.calls t167 t170 _ X0.out).mono ?_); rintro e w' ⟨rfl, ⟨nd, rfl⟩⟩; refine ⟨_, rfl, ?_⟩) | ((with_reducible refine aV (f := 88) rfl ?_); refine cZ (some 59) rfl rfl Try.func88 (by kernel_rfl) rfl #[.int .u64 (t169 / 1099511627776), .int .u64 (IntKind.u64.wrap (t169 * 16777216)), .int .u64 t170] rfl (by (try simp only [List.map_toArray, List.map_cons, List.map_nil]); first | done | rfl | (simp only [List.length_drop, List.length_take]; rfl)) ?_; (with_reducible refine (bC.calls k (t169 / 1099511627776) (IntKind.u64.wrap (t169 * 16777216)) t170 t173 t174 _ J3.out).mono ?_); rintro e w' ⟨rfl, ⟨nd, rfl⟩⟩; refine ⟨_, rfl, ?_⟩) | ((with_reducible refine aV (f := 66) rfl ?_); refine cZ (some 84) rfl rfl Try.func66 (by kernel_rfl) rfl #[.int .u64 0, .int .u64 t173, .bool ((decide (t166 < 0)) != (decide (t167 < 0)))] rfl (by (try simp only [List.map_toArray, List.map_cons, List.map_nil]); first | done | rfl | (simp only [List.length_drop, List.length_take]; rfl)) ?_; (with_reducible refine (bF.calls 0 t173 ((decide (t166 < 0)) != (decide (t167 < 0))) t181 t182 _ A38.out).mono ?_); rintro e w43 ⟨rfl, hb⟩; refine ⟨_, rfl, ?_⟩; have bT := ah.mk (aI (by repeat (first | (with_reducible first | exact HB.out | apply au | apply af | apply ak) | exact HB.out)) hb); clear HB; have HB := bT; clear bT; (try clear hb); (try clear hb2); (try clear hk); (try clear hi)))
           go_ret2
           exact ⟨by first | rfl | (simp [aU, aT] <;> rfl) | (simp [*, aU, aT] <;> rfl), by repeat (first | (with_reducible first | exact HB.out | apply au | apply af | apply ak) | exact HB.out)⟩
def bits_Mul.f (a0 : Int) (a1 : Int) : Option (Int × Int) := (bits_Mul64.f a0 a1).bind fun LX => (some (LX.1, LX.2))
theorem bits_Mul.calls (a0 : Int) (a1 : Int) (r1 : Int) (r2 : Int) (w : World) (h : bits_Mul.f a0 a1 = some (r1, r2)) :
 Calls Try.prog 94 #[.int .u64 a0, .int .u64 a1] w fun e w' => e = .returned (.tuple #[.int .u64 r1, .int .u64 r2]) ∧ dK w w' := by
 have H : ((bits_Mul64.f a0 a1).bind fun LX => (some (LX.1, LX.2))) = some (r1, r2) := h
 clear h
 replace H := Option.bind_eq_some_iff.mp H
 obtain ⟨⟨t183, t184⟩, xU, H⟩ := H
 replace H : (some (t183, t184)) = some (r1, r2) := H
 have A3 := ah.mk xU
 clear xU
 simp only [Option.some.injEq, Prod.mk.injEq] at H
 obtain ⟨rfl, rfl⟩ := H
 go_enter Try.func94, Try.ntmps94
 go_wp2_with (first | ((with_reducible refine aV (f := 64) rfl ?_); refine cZ (some 25) rfl rfl Try.func64 (by kernel_rfl) rfl #[.int .u64 a0, .int .u64 a1] rfl (by (try simp only [List.map_toArray, List.map_cons, List.map_nil]); first | done | rfl | (simp only [List.length_drop, List.length_take]; rfl)) ?_; (with_reducible refine (bits_Mul64.calls a0 a1 t183 t184 _ A3.out).mono ?_); rintro e w' ⟨rfl, ⟨nd, rfl⟩⟩; refine ⟨_, rfl, ?_⟩))
 go_ret2
 exact ⟨by first | rfl | (simp; done) | (simp [*]; done), by repeat (first | exact dK.refl _ | apply dK.step)⟩
end Go.Proofs.Ytninmcmajbfccaa.PQ

namespace Go.Proofs.Ytninmcmajbfccaa.KK
open Go.RowKit Go.Proofs.aH.bK Go.Proofs.aH.dG Go.Proofs.aH.dJ
set_option linter.unusedVariables false
set_option linter.unusedSimpArgs false
abbrev I (n : Int) : Value := .int .i64 n
def Row (w : World) (B : Nat) (t : TypeId) (cs : Array Value) : Prop := w.heap[B]? = some (.cells cs t (0, 0))
section
variable {w w' : World} {B : Nat} {t : TypeId} {cs : Array Value}
theorem Row.cell (h : Row w B t cs) (i : Nat) : w.cell? ⟨B, i, none⟩ = cs[i]? := by unfold Row at h; simp [World.cell?, h]
theorem Row.free (h : Row w B t cs) (i : Nat) : w.frozen? ⟨B, i, none⟩ = false := by unfold Row at h; simp [World.frozen?, h]
theorem Row.lt (h : Row w B t cs) : B < w.heap.size := by
 rcases Nat.lt_or_ge B w.heap.size with hl | hl
 · exact hl
 · unfold Row at h; rw [Array.getElem?_eq_none hl] at h; cases h
theorem Row.new (w : World) (t : TypeId) (cs : Array Value) : Row (w.alloc (.cells cs t)) w.heap.size t cs := heap_alloc_new w _
theorem Row.alloc (h : Row w B t cs) (o : Obj) : Row (w.alloc o) B t cs := (Below.heap_alloc w o B h.lt).trans h
theorem Row.drew (h : Row w B t cs) : Row w.drew B t cs := h
theorem Row.below {n : Nat} (h : Row w B t cs) (hb : Below n w w') (hn : B < n) : Row w' B t cs := (hb.block B hn).trans h
theorem Row.set (h : Row w B t cs) (i : Nat) (u : Value) : Row (w.setCell ⟨B, i, none⟩ u) B t (cs.setIfInBounds i u) := by
 unfold Row at h ⊢
 simp [World.setCell, Array.getElem?_modify, h]
theorem Row.far (h : Row w B t cs) {p : Addr} (hp : B ≠ p.block) (u : Value) : Row (w.setCell p u) B t cs := (Below.heap_setCell w p u B hp).trans h
theorem Row.grown {r : Option Nat} (h : Row w B t cs) (hg : w.grownBy w' r) (hr : some B ≠ r) : Row w' B t cs := (hg.block B h.lt hr).trans h
end
theorem nV {w w1 : World} (hb : Below w.heap.size w w1) (r : Option Nat) : w.grownBy w1 r := ⟨hb.os, hb.tape, hb.output, hb.size, fun k hk _ => hb.block k hk⟩
theorem yC {w w1 w2 : World} {r : Option Nat} (h : w.grownBy w1 r) (h' : w1.grownBy w2 r) : w.grownBy w2 r :=
 ⟨h'.os.trans h.os, h'.tape.trans h.tape, h'.output.trans h.output, Nat.le_trans h.size h'.size, fun k hk hr => (h'.block k (Nat.lt_of_lt_of_le hk h.size) hr).trans (h.block k hk hr)⟩
theorem cell_lt {w : World} {a : Addr} {v : Value} (h : w.cell? a = some v) : a.block < w.heap.size := by
 rcases Nat.lt_or_ge a.block w.heap.size with hl | hl
 · exact hl
 · simp [World.cell?, Array.getElem?_eq_none hl] at h
theorem JQ (a : Addr) (n : Nat) : (a.add n).block = a.block := by unfold Addr.add; split <;> rfl
theorem I7 {w : World} {a : Addr} {v : Value} (h : w.cell? a = some v) : a = ⟨a.block, a.off, none⟩ := by
 obtain ⟨b, o, s⟩ := a
 unfold World.cell? at h
 split at h
 · split at h
   · cases h
   · rename_i hs; cases s with
     | none => rfl
     | some y => simp at hs
 · cases h
def Rows (w : World) : Nat → List (TypeId × Array Value) → Prop
 | _, [] => True
 | b, x :: l => Row w b x.1 x.2 ∧ Rows w (b + 1) l
section
variable {w w' w0 : World} {b : Nat} {L : List (TypeId × Array Value)}
theorem Rows.imp (h : ∀ k t cs, b ≤ k → k < b + L.length → Row w k t cs → Row w' k t cs) (H : Rows w b L) : Rows w' b L := by
 induction L generalizing b with
 | nil => trivial
 | cons x l ih =>
   refine ⟨h b _ _ (Nat.le_refl _) (by simp) H.1, ih (fun k t cs h1 h2 => h k t cs (by omega) (by simp; omega)) H.2⟩
theorem Rows.le (H : Rows w b L) (hb : b ≤ w.heap.size) : b + L.length ≤ w.heap.size := by
 induction L generalizing b with
 | nil => simpa using hb
 | cons x l ih => have := ih H.2 H.1.lt; simp; omega
theorem Rows.alloc (h : Rows w b L) (o : Obj) : Rows (w.alloc o) b L := h.imp fun _ _ _ _ _ r => r.alloc o
theorem Rows.drew (h : Rows w b L) : Rows w.drew b L := h.imp fun _ _ _ _ _ r => r.drew
theorem Rows.below (h : Rows w b L) (hb : Below w.heap.size w w') : Rows w' b L := h.imp fun _ _ _ _ _ r => r.below hb r.lt
theorem Rows.Ve (j : Nat) (t : TypeId) (cs : Array Value) (hr : Row w' (b + j) t cs) (h : ∀ k t cs, k ≠ b + j → Row w k t cs → Row w' k t cs) (H : Rows w b L) : Rows w' b (L.set j (t, cs)) := by
 induction L generalizing b j with
 | nil => trivial
 | cons x l ih =>
   cases j with
   | zero => exact ⟨hr, H.2.imp fun k t cs h1 h2 => h k t cs (by omega)⟩
   | succ j => exact ⟨h _ _ _ (by omega) H.1, ih j (by rwa [Nat.add_assoc, Nat.add_comm 1]) (fun k t cs h1 => h k t cs (by omega)) H.2⟩
theorem Rows.push (H : Rows w b L) (h : w.heap.size = b + L.length) (t : TypeId) (cs : Array Value) : Rows (w.alloc (.cells cs t)) b (L ++ [(t, cs)]) := by
 have := (H.alloc (.cells cs t))
 have e := Row.new w t cs
 rw [h] at e
 clear H h
 induction L generalizing b with
 | nil => exact ⟨e, trivial⟩
 | cons x l ih => exact ⟨this.1, ih this.2 (by simp only [List.length_cons] at e; rwa [Nat.add_assoc, Nat.add_comm 1])⟩
end
structure fF (w0 : World) (L : List (TypeId × Array Value)) (w : World) : Prop where
 rows : Rows w w0.heap.size L
 be : Below w0.heap.size w0 w
section
variable {w w' w0 : World} {L : List (TypeId × Array Value)}
theorem fF.none (w : World) : fF w [] w := ⟨trivial, Below.refl _ w⟩
theorem fF.push (h : fF w0 L w) (e : w.heap.size = w0.heap.size + L.length) (t : TypeId) (cs : Array Value) : fF w0 (L ++ [(t, cs)]) (w.alloc (.cells cs t)) :=
 ⟨h.rows.push e t cs, h.be.alloc h.be.size _⟩
theorem fF.alloc (h : fF w0 L w) (o : Obj) : fF w0 L (w.alloc o) := ⟨h.rows.alloc o, h.be.alloc h.be.size o⟩
theorem fF.drew (h : fF w0 L w) : fF w0 L w.drew := ⟨h.rows.drew, h.be.drew⟩
theorem fF.below (h : fF w0 L w) (hb : Below w.heap.size w w') : fF w0 L w' := ⟨h.rows.below hb, h.be.trans (hb.mono h.be.size)⟩
theorem fF.put (j : Nat) (h : fF w0 L w) (t : TypeId) (cs : Array Value) (hr : Row w (w0.heap.size + j) t cs) (i : Nat) (u : Value) : fF w0 (L.set j (t, cs.setIfInBounds i u)) (w.setCell ⟨w0.heap.size + j, i, .none⟩ u) :=
 ⟨h.rows.Ve j t _ (hr.set i u) fun k t cs hk r => r.far (by simpa using hk) u, h.be.setCell (by simp) u⟩
variable {x0 x1 x2 x3 x4 x5 : TypeId × Array Value}
theorem fF.r0 (h : fF w0 (x0 :: L) w) : Row w w0.heap.size x0.1 x0.2 := h.rows.1
theorem fF.r1 (h : fF w0 (x0 :: x1 :: L) w) : Row w (w0.heap.size + 1) x1.1 x1.2 := h.rows.2.1
theorem fF.r2 (h : fF w0 (x0 :: x1 :: x2 :: L) w) : Row w (w0.heap.size + 1 + 1) x2.1 x2.2 := h.rows.2.2.1
theorem fF.r3 (h : fF w0 (x0 :: x1 :: x2 :: x3 :: L) w) : Row w (w0.heap.size + 1 + 1 + 1) x3.1 x3.2 := h.rows.2.2.2.1
theorem fF.r4 (h : fF w0 (x0 :: x1 :: x2 :: x3 :: x4 :: L) w) : Row w (w0.heap.size + 1 + 1 + 1 + 1) x4.1 x4.2 := h.rows.2.2.2.2.1
theorem fF.r5 (h : fF w0 (x0 :: x1 :: x2 :: x3 :: x4 :: x5 :: L) w) : Row w (w0.heap.size + 1 + 1 + 1 + 1 + 1) x5.1 x5.2 := h.rows.2.2.2.2.2.1
end
theorem fF.app {w0 w w' : World} {L : List (TypeId × Array Value)} {r : Option Nat} (h : fF w0 L w) (hg : w.grownBy w' r) (hr : ∀ g, r = some g → w0.heap.size + L.length ≤ g) : fF w0 L w' :=
 ⟨h.rows.imp fun k t cs _ hk r' => r'.grown hg (fun e => by have := hr k e.symm; omega), ⟨hg.os.trans h.be.os, hg.tape.trans h.be.tape, hg.output.trans h.be.output, Nat.le_trans h.be.size hg.size, fun k hk => (hg.block k (Nat.lt_of_lt_of_le hk h.be.size) (fun e => by have := hr k e.symm; omega)).trans (h.be.block k hk)⟩⟩
abbrev Rd (w : World) (A : Option Addr) (l : List Int) : Prop := Kd.C (Kd.int .i64) w A l.length l
abbrev Own (w : World) (base : Nat) (v : Value) (l : List Int) : Prop := Kd.R (Kd.int .i64) 22 w base (fun _ => True) v l
theorem Rd.cells {w : World} {A : Option Addr} {l : List Int} (h : Rd w A l) (hne : 0 < l.length) : ∃ b off, A = some ⟨b, off, none⟩ ∧ b < w.heap.size ∧ ∀ (j : Nat) (x : Int), l[j]? = some x → w.cell? ⟨b, off + j, none⟩ = some (I x) := by
 obtain ⟨ad, rfl, hc⟩ := h.2.2 hne
 have key : ∀ (j : Nat) (x : Int), l[j]? = some x → w.cell? (ad.add j) = some (I x) := fun j x hx => by
  obtain ⟨c, _, hr, hcell⟩ := hc j x hx
  have e : c = [I x] := hr
  subst e
  have h1 : (Kd.int .i64).sz = 1 := rfl
  have := hcell 0 _ rfl
  rw [h1, Nat.mul_one, Nat.add_zero] at this
  exact this
 have h0 := key 0 _ (List.getElem?_eq_getElem hne)
 have ea0 : ad.add 0 = ad := by simp [Addr.add]
 rw [ea0] at h0
 have hs := I7 h0
 have hl := cell_lt h0
 obtain ⟨ab, ao, asp⟩ := ad
 injection hs with _ _ hs
 subst hs
 refine ⟨ab, ao, rfl, hl, fun j x hx => ?_⟩
 have := key j x hx
 unfold Addr.add at this
 by_cases hj : j = 0
 · subst hj
   rw [if_pos rfl] at this
   exact this
 · rw [if_neg hj] at this
   exact this
theorem Rd.nil (w : World) (A : Option Addr) : Rd w A [] := ⟨rfl, by show (0:Nat) ≤ _; omega, fun h => absurd h (Nat.lt_irrefl 0)⟩
theorem Rd.below {w w' : World} {A : Option Addr} {l : List Int} (h : Rd w A l) (hb : Below w.heap.size w w') : Rd w' A l := Kd.fB h hb
theorem Own.reads {w : World} {base : Nat} {v : Value} {l : List Int} (h : Own w base v l) : ∃ A c, v = .slice A l.length c ∧ l.length ≤ c ∧ Rd w A l := Kd.vT h
theorem Own.below {w w' : World} {base : Nat} {v : Value} {l : List Int} (h : Own w base v l) (hb : Below w.heap.size w w') : Own w' base v l := Kd.iO h hb
theorem Own.lower {w : World} {base base' : Nat} {v : Value} {l : List Int} (h : Own w base v l) (hb : base' ≤ base) : Own w base' v l := Kd.jG h hb
theorem Own.row {w : World} {base : Nat} {v : Value} {l : List Int} (h : Own w base v l) : w.ownsRow base 22 1 v l.length (l.map I) := by
 exact Kd.Fb (enc := I) h
theorem Own.Ac {w : World} {base : Nat} {v : Value} {l : List Int} (h : w.ownsRow base 22 1 v l.length (l.map I)) : Own w base v l := Kd.LZ (enc := I) h (fun _ _ => trivial)
end Go.Proofs.Ytninmcmajbfccaa.KK

namespace Go.Proofs.Ytninmcmajbfccaa.KK
open Go.RowKit Go.Proofs.aH.bK Go.Proofs.aH.dG Go.Proofs.aH.dJ
set_option linter.unusedVariables false
set_option linter.unusedSimpArgs false
theorem M_ : (Try.prog.info? 22).map (fun i => (i.zero, i.size, i.bytes)) = some (some (I 0), 1, 8) := by kernel_rfl
theorem J6 (w : World) {ops : Array Oper} {rest : List Oper} {o : Oper} {a : Act} {Q : Exit → Act → World → Prop} (hgd : o.guard = none) (s x : Operand)
 (ho : o.op = .call { callee := .builtin .append, args := #[s, x], argTypes := #[24, 24] })
 (base : Nat) (v : Value) (l : List Int) (q : Int) (bx : Nat) (hs : a.eval s = v) (hx : a.eval x = .slice (some ⟨bx, 0, none⟩) 1 1) (hown : Own w base v l) (hc : w.cell? ⟨bx, 0, none⟩ = some (I q)) (hbase : base ≤ w.heap.size) (hlen : l.length ≤ 1000000)
 (h : ∀ A c w', Own w' base (.slice A (l.length + 1) c) (l ++ [q]) → w.grownBy w' v.ownBlock → ((Value.slice A (l.length + 1) c).ownBlock = v.ownBlock ∨ (Value.slice A (l.length + 1) c).ownBlock = some w.heap.size) → wpList Try.prog ops Q rest (a.put o.dst (.slice A (l.length + 1) c)) w') :
 wpList Try.prog ops Q (o :: rest) a w := by
 obtain ⟨i0, hi0, hz0, hz1, hz2⟩ := info_parts M_
 refine wpList_append_own_at w hgd s x 24 ho base 22 i0 (I 0) 1 8 Try.underlying24 hi0 hz0 hz1 hz2 rfl (by omega) v l.length (l.map I) hs hown.row ⟨bx, 0, none⟩ 1 1 [I q] hx rfl ?_ ?_ (by simp only [maxLen]; omega) (by omega) hbase ?_
 · intro j u hj
   match j, hj with
   | 0, hj =>
     simp at hj
     subst hj
     simpa [Addr.add] using hc
 · intro u hu
   simp at hu
   subst hu
   rfl
 · intro v' w' hown' hg _ hat
   have hl : (l ++ [q]).length = l.length + 1 := by simp
   have ho2 : Own w' base v' (l ++ [q]) := Own.Ac (by rw [hl, List.map_append]; exact hown')
   obtain ⟨A, c, rfl, _, _⟩ := ho2.reads
   rw [hl] at ho2 hat ⊢
   exact h A c w' ho2 hg hat
theorem xy {l : List Int} {j : Nat} (h : j < l.length) : l[j]? = some (l.getD j 0) := by
 rw [List.getD_eq_getElem?_getD, List.getElem?_eq_getElem h]; rfl
theorem pF (r : Int) (c : Nat) (A : Option Addr) (cap : Nat) (l : List Int) (i k : Nat) (w : World) (hl : Rd w A l) (h : i * c + k < l.length) (hle : l.length ≤ 1000000) :
 Calls Try.prog 80 #[.agg #[I r, I c, .slice A l.length cap], I i, I k] w fun e w' => e = .returned (I (l.getD (i * c + k) 0)) ∧ Below w.heap.size w w' := by
 obtain ⟨b, off, rfl, hb, hc⟩ := hl.cells (by omega)
 have x := hc _ _ (xy h)
 have hb0 : Hid (Below w.heap.size w (w.alloc (.cells #[I r, I c, .slice (some ⟨b, off, none⟩) l.length cap] 26))) := Lib.hid ((Below.refl _ _).alloc (Nat.le_refl _) _)
 obtain ⟨q, hq⟩ : ∃ q, l.getD (i * c + k) 0 = q := ⟨_, rfl⟩
 rw [hq] at x ⊢
 obtain ⟨p, hp⟩ : ∃ p : Nat, i * c = p := ⟨_, rfl⟩
 have hp2 : (i : Int) * (c : Int) = (p : Int) := by rw [← hp]; push_cast; rfl
 have hw1 : IntKind.i64.wrap ((i : Int) * (c : Int)) = (p : Int) := by rw [hp2]; simp [IntKind.wrap, IntKind.bits, IntKind.signed]; omega
 rw [hp] at x h
 have hw2 : IntKind.i64.wrap ((p : Int) + (k : Int)) = ((p + k : Nat) : Int) := by simp [IntKind.wrap, IntKind.bits, IntKind.signed]; omega
 obtain ⟨j, hj⟩ : ∃ j : Nat, p + k = j := ⟨_, rfl⟩
 rw [hj] at x h hw2
 have hj0 : (0 : Int) ≤ (j : Int) := by omega
 have hj1 : (j : Int) < l.length := by omega
 clear hq hp hp2 hj hc hl h
 go_enter Try.func80, Try.ntmps80
 go_wp2
 go_ret
 exact ⟨rfl, hb0.out⟩
end Go.Proofs.Ytninmcmajbfccaa.KK

namespace Go.Proofs.Ytninmcmajbfccaa.KK
open Go.RowKit Go.Proofs.aH.bK Go.Proofs.aH.dG Go.Proofs.aH.dJ
set_option linter.unusedVariables false
set_option linter.unusedSimpArgs false
abbrev gy (w : World) (C : Nat) (a b c : Value) : World := ((w.setCell ⟨C, 0, none⟩ a).setCell ⟨C, 1, none⟩ b).setCell ⟨C, 2, none⟩ c
section
variable {w w0 : World} {B C : Nat} {t : TypeId} {cs : Array Value} {a b c : Value}
theorem Row.gy {a' b' c' : Value} (h : Row w B t #[a', b', c']) (a b c : Value) : Row (gy w B a b c) B t #[a, b, c] := by
 simpa using ((h.set 0 a).set 1 b).set 2 c
theorem Row.CU (h : Row w B t cs) (hne : B ≠ C) : Row (KK.gy w C a b c) B t cs :=
 ((h.far (p := ⟨C, 0, none⟩) hne a).far (p := ⟨C, 1, none⟩) hne b).far (p := ⟨C, 2, none⟩) hne c
theorem Below.gy {B : Nat} (h : Below B w0 w) (hC : B ≤ C) (a b c : Value) : Below B w0 (KK.gy w C a b c) :=
 ((h.setCell (p := ⟨C, 0, none⟩) hC a).setCell (p := ⟨C, 1, none⟩) hC b).setCell (p := ⟨C, 2, none⟩) hC c
theorem Own.far {base : Nat} {v : Value} {l : List Int} (h : Own w base v l) {p : Addr} (hp : p.block < base) (u : Value) : Own (w.setCell p u) base v l :=
 Own.Ac (wI h.row fun k hk => Below.heap_setCell w p u k (by have := (h.row.lt k hk).1; omega))
theorem Own.gy {base : Nat} {v : Value} {l : List Int} (h : Own w base v l) (hp : C < base) (a b c : Value) : Own (KK.gy w C a b c) base v l :=
 ((h.far (p := ⟨C, 0, none⟩) hp a).far (p := ⟨C, 1, none⟩) hp b).far (p := ⟨C, 2, none⟩) hp c
theorem Own.alloc {base : Nat} {v : Value} {l : List Int} (h : Own w base v l) (o : Obj) : Own (w.alloc o) base v l := h.below ((Below.refl _ _).alloc (Nat.le_refl _) o)
theorem Own.nil (w : World) (base : Nat) : Own w base (.slice none 0 0) [] := Kd.qV _ _ _ _ _
end
section
variable {w : World} {B : Nat} {a b c : Value} {fn : Func} {k j m : Nat} {tmps : Array Value}
theorem Vg (h : fn.results = #[.cell k 26]) (hk : tmps.getD k undef = .pointer (some ⟨B, 0, none⟩)) (R : Row w B 26 #[a, b, c]) :
 (results fn tmps).run Try.prog w = .ok (.agg #[a, b, c]) w := by
 have c := R.cell
 have hk' : tmps[k]?.getD undef = .pointer (some ⟨B, 0, none⟩) := by simpa using hk
 simp only [results, h]
 simp [go_sem, hk', c]
theorem EZ (h : fn.results = #[.cell k 26, .tmp j]) (hk : tmps.getD k undef = .pointer (some ⟨B, 0, none⟩)) (R : Row w B 26 #[a, b, c]) :
 (results fn tmps).run Try.prog w = .ok (.tuple #[.agg #[a, b, c], tmps.getD j undef]) w := by
 have c := R.cell
 have hk' : tmps[k]?.getD undef = .pointer (some ⟨B, 0, none⟩) := by simpa using hk
 simp only [results, h]
 simp [go_sem, hk', c]
theorem yf (h : fn.results = #[.cell k 26, .tmp j, .tmp m]) (hk : tmps.getD k undef = .pointer (some ⟨B, 0, none⟩)) (R : Row w B 26 #[a, b, c]) :
 (results fn tmps).run Try.prog w = .ok (.tuple #[.agg #[a, b, c], tmps.getD j undef, tmps.getD m undef]) w := by
 have c := R.cell
 have hk' : tmps[k]?.getD undef = .pointer (some ⟨B, 0, none⟩) := by simpa using hk
 simp only [results, h]
 simp [go_sem, hk', c]
end
def upto (c : Nat) (q : Nat → Nat → Int) (i : Nat) : List Int := (List.range i).flatMap fun i => (List.range c).map (q i)
def yL (c : Nat) (o : Nat → Nat → Bool) (i : Nat) : Bool := (List.range i).any fun i => (List.range c).any (o i)
section
variable {c i k : Nat} {q : Nat → Nat → Int} {o : Nat → Nat → Bool}
theorem upto_length : (upto c q i).length = i * c := by
 induction i with
 | zero => simp [upto]
 | succ i ih =>
   unfold upto at ih ⊢
   rw [List.range_succ, List.flatMap_append, List.length_append, ih]
   simp [Nat.succ_mul]
theorem upto_succ : upto c q (i + 1) = upto c q i ++ (List.range c).map (q i) := by
 unfold upto
 rw [List.range_succ, List.flatMap_append]
 simp
theorem Oo : yL c o (i + 1) = (yL c o i || (List.range c).any (o i)) := by
 unfold yL
 rw [List.range_succ, List.any_append]
 simp
theorem Tz : (List.range (k + 1)).map (q i) = (List.range k).map (q i) ++ [q i k] := by
 rw [List.range_succ, List.map_append]; rfl
theorem Uu : (List.range (k + 1)).any (o i) = ((List.range k).any (o i) || o i k) := by
 rw [List.range_succ, List.any_append]; simp
end
def Enters (n : Nat) : Prop := ∀ (args : Array Value) (w : World), (callFunc n args).run Try.prog w = .ok (.enter n args) w
theorem enters {n : Nat} {fn : Func} (h : Try.prog.funcs[n]? = some fn) (hn : (fn.name == "runtime.NumGoroutine") = false) (hb : fn.body.isNone = false) : Enters n := fun args w => by
 unfold callFunc
 simp only [Sem.run_bind, go_sem, Result.andThen_ok]
 show Sem.run Try.prog _ w = _
 rw [h]
 simp only [hn, hb, Sem.run_pure]
 rfl
def BM (w : World) (n : Nat) (cap : Array Value) (r c : Nat) (q : Nat → Nat → Int) (o : Nat → Nat → Bool) : Prop :=
 ∀ (i k : Nat) (w' : World), i < r → k < c → Below w.heap.size w w' → Calls Try.prog n (#[I i, I k] ++ cap) w' fun e w'' => e = .returned (.tuple #[I (q i k), .bool (o i k)]) ∧ Below w'.heap.size w' w''
theorem NT (n : Nat) (cap : Array Value) (r c : Nat) (q : Nat → Nat → Int) (o : Nat → Nat → Bool) (w : World) (hr : r ≤ 8) (hc : c ≤ 8) (he : Enters n) (ht : BM w n cap r c q o) :
 Calls Try.prog 59 #[.agg #[I r, I c], .func (.func n) #[] cap] w fun e w' => ∃ v, e = .returned (.tuple #[.agg #[I r, I c, v], .bool (yL c o r)]) ∧ Own w' w.heap.size v (upto c q r) ∧ Below w.heap.size w w' := by
 have HR := Lib.hid hr
 have HC := Lib.hid hc
 have HT := Lib.hid ht
 have HE := Lib.hid he
 clear hr hc ht he
 have N : Hid (fF w [(99, #[I r, I c]), (26, #[I 0, I 0, .slice none 0 0]), (26, #[I r, I c, .slice none 0 0])] (((w.alloc (.cells #[I r, I c] 99)).alloc (.cells #[I 0, I 0, .slice none 0 0] 26)).alloc (.cells #[I r, I c, .slice none 0 0] 26))) := Lib.hid ((((fF.none w).push (by simp) _ _).push (by simp) _ _).push (by simp) _ _)
 go_enter Try.func59, Try.ntmps59
 go_wp2_with fail
 go_loopw [7, 19] (fun od ii wr => ∃ (i : Nat) (b : Bool) (l : List Int) (A : Option Addr) (cp : Nat), i ≤ r ∧ ii = .int .i64 i ∧ od = .bool b ∧ Hid (l = upto c q i ∧ b = yL c o i) ∧ Hid (fF w [(99, #[I r, I c]), (26, #[I 0, I 0, .slice none 0 0]), (26, #[I r, I c, .slice A l.length cp])] wr) ∧ Hid (Own wr (w.heap.size + 3) (.slice A l.length cp) l)) (fun _ ii _ => r - (intOf ii).toNat)
 case atStart => exact ⟨0, false, [], none, 0, by omega, rfl, rfl, Lib.hid ⟨rfl, rfl⟩, N, Lib.hid (Own.nil _ _)⟩
 case round =>
  clear N
  obtain ⟨i, b, l, A, cp, hi, rfl, rfl, E, N, O⟩ := hrel
  have x0 := N.out.r0.cell
  have x2 := N.out.r2.cell
  have t0 := N.out.r0.lt
  have t2 := N.out.r2.lt
  by_cases hir : i = r
  · subst hir
    have x1 := N.out.r1.cell
    have g1 := N.out.r1.free
    have t1 := N.out.r1.lt
    go_wp2
    refine bodyPost_ret (EZ rfl rfl (N.out.r1.gy _ _ _)) rfl ⟨_, by rw [← E.out.2]; rfl, ?_, Below.gy N.out.be (by omega) _ _ _⟩
    rw [← E.out.1]
    exact (O.out.gy (by omega) _ _ _).lower (by omega)
  have hlt : (i : Int) < r := by omega
  have STEP : Hid (i + 1 ≤ r ∧ r - (i + 1) < r - i) := Lib.hid (by omega)
  have hw64 : IntKind.i64.wrap ((i : Int) + 1) = (i : Int) + 1 := by have := HR.out; simp [IntKind.wrap, IntKind.bits, IntKind.signed]; omega
  have HI := Lib.hid (show i < r by omega)
  have HL : Hid (l.length = i * c) := Lib.hid (by rw [E.out.1]; exact upto_length)
  clear hi hir
  go_wp2_with fail
  go_loopw [7, 24] (fun od kk wr => ∃ (k : Nat) (b2 : Bool) (l2 : List Int) (A2 : Option Addr) (c2 : Nat), k ≤ c ∧ kk = .int .i64 k ∧ od = .bool b2 ∧ Hid (l2 = l ++ (List.range k).map (q i) ∧ b2 = (b || (List.range k).any (o i))) ∧ Hid (fF w [(99, #[I r, I c]), (26, #[I 0, I 0, .slice none 0 0]), (26, #[I r, I c, .slice A2 l2.length c2])] wr) ∧ Hid (Own wr (w.heap.size + 3) (.slice A2 l2.length c2) l2)) (fun _ kk _ => c - (intOf kk).toNat)
  case atStart => exact ⟨0, b, l, A, cp, by omega, rfl, rfl, Lib.hid ⟨by simp, by simp⟩, N, O⟩
  case round =>
   clear N O x0 x2 t0 t2
   obtain ⟨k, b2, l2, A2, c2, hk, rfl, rfl, E2, N, O⟩ := hrel
   have x0 := N.out.r0.cell
   have x2 := N.out.r2.cell
   have g2 := N.out.r2.free
   have t0 := N.out.r0.lt
   have t2 := N.out.r2.lt
   by_cases hkc : k = c
   · subst hkc
     go_wp2
     go_roundw
     case rel => exact ⟨i + 1, b2, l2, A2, c2, STEP.out.1, by go_num, rfl, Lib.hid ⟨by rw [upto_succ, ← E.out.1]; exact E2.out.1, by rw [Oo, ← E.out.2]; exact E2.out.2⟩, N, O⟩
     case measure =>
      have h := STEP.out.2
      show r - ((i : Int) + 1).toNat < r - ((i : Int)).toNat
      rw [show ((i : Int) + 1).toNat = i + 1 by omega, show ((i : Int)).toNat = i by omega]
      exact h
   have hlt2 : (k : Int) < c := by omega
   have Yz : Hid (k + 1 ≤ c ∧ c - (k + 1) < c - k) := Lib.hid (by omega)
   have anW : IntKind.i64.wrap ((k : Int) + 1) = (k : Int) + 1 := by have := HC.out; simp [IntKind.wrap, IntKind.bits, IntKind.signed]; omega
   have HK := Lib.hid (show k < c by omega)
   have HL2 : Hid (l2.length ≤ 1000) := Lib.hid (by rw [E2.out.1, List.length_append, List.length_map, List.length_range, HL.out]; have := HI.out; have := HR.out; have := HC.out; have := HK.out; have : i * c ≤ 7 * 8 := Nat.mul_le_mul (by omega) (by omega); omega)
   clear hk hkc
   go_wp2_with fail
   rw [HE.out _ _, Oper.upon_enter]
   refine (HT.out i k _ HI.out HK.out N.out.be).mono ?_
   rintro e w2 ⟨rfl, hb⟩
   replace N := Lib.hid (N.out.below hb)
   replace O := Lib.hid (O.out.below hb)
   clear hb x0 x2 g2 t0 t2
   obtain ⟨y, hy⟩ : ∃ y, q i k = y := ⟨_, rfl⟩
   obtain ⟨z, hz⟩ : ∃ z, o i k = z := ⟨_, rfl⟩
   rw [hy, hz]
   have HY := Lib.hid hy
   have HZ := Lib.hid hz
   clear hy hz
   have x0 := N.out.r0.cell
   have x2 := N.out.r2.cell
   have g2 := N.out.r2.free
   have t0 := N.out.r0.lt
   have t2 := N.out.r2.lt
   have hB : w.heap.size + 3 ≤ w2.heap.size := by omega
   have ob : Hid (∀ A3 c3, (Value.slice A3 (l2.length + 1) c3).ownBlock = (Value.slice A2 l2.length c2).ownBlock ∨ (Value.slice A3 (l2.length + 1) c3).ownBlock = some w2.heap.size → True) := Lib.hid (fun _ _ _ => trivial)
   cases b2
   all_goals
    go_wp2_with (at_builtin
                 refine J6 _ rfl (.tmp 35) (.tmp 37) rfl (w.heap.size + 3) _ l2 y w2.heap.size rfl rfl ?own ?cell ?base ?len ?_
                 case own => exact O.out.alloc _
                 case cell => exact (Row.new w2 22 #[I y]).cell 0
                 case base => (simp; omega)
                 case len => (have := HL2.out; omega)
                 intro A3 c3 w3 hown hg hat
                 have O3 := Lib.hid hown
                 have N3 := Lib.hid ((N.out.alloc (.cells #[I y] 22)).app hg (fun g h => by have := (O.out.row.lt g h).1; simp; omega))
                 have x2 := N3.out.r2.cell
                 have g2 := N3.out.r2.free
                 have t2 := N3.out.r2.lt
                 clear hown hg hat)
    have N4 := Lib.hid (N3.out.put 2 26 _ N3.out.r2 2 (.slice A3 (l2.length + 1) c3))
    have O4 := Lib.hid (O3.out.far (p := ⟨w.heap.size + 1 + 1, 2, none⟩) (by dsimp only; omega) (.slice A3 (l2.length + 1) c3))
    go_roundw
    case rel => exact ⟨k + 1, _, l2 ++ [y], A3, c3, Yz.out.1, by go_num, rfl, Lib.hid ⟨by rw [Tz, HY.out, ← List.append_assoc, ← E2.out.1], by rw [Uu, HZ.out, ← Bool.or_assoc, ← E2.out.2]; simp⟩, by simpa using N4, by simpa using O4⟩
    case measure =>
     have h := Yz.out.2
     show c - ((k : Int) + 1).toNat < c - ((k : Int)).toNat
     rw [show ((k : Int) + 1).toNat = k + 1 by omega, show ((k : Int)).toNat = k by omega]
     exact h
end Go.Proofs.Ytninmcmajbfccaa.KK

namespace Go.Proofs.Ytninmcmajbfccaa.PQ
open Go.RowKit Go.Proofs.aH.bK Go.Proofs.aH.dG Go.Proofs.aH.dJ
theorem gG (n : Int) : IntKind.u64.wrap n = n % 18446744073709551616 := by simp [IntKind.wrap, IntKind.bits, IntKind.signed]
theorem wraps_u64 (n : Int) (h₀ : 0 ≤ n) (h₁ : n < 2 ^ 64) : IntKind.u64.wrap n = n := by rw [gG]; omega
theorem zZ {n : Int} (h0 : -9223372036854775808 ≤ n) (h1 : n ≤ 9223372036854775807) : wrap64 n = n := by unfold wrap64; omega
theorem Y9 (x : Int) (h0 : 0 ≤ x) (h1 : x < 18446744073709551616) : Go.bits .and .u64 x 16777215 = x % 16777216 :=
 bits_mask .u64 64 (by decide) wraps_u64 24 (by decide) x h0 h1
theorem Tv (x : Int) (h0 : 0 ≤ x) (h1 : x < 18446744073709551616) : Go.bits .and .u64 x 1 = x % 2 :=
 bits_mask .u64 64 (by decide) wraps_u64 1 (by decide) x h0 h1
theorem ahR (x y : Int) (hx₀ : 0 ≤ x) (hx₁ : x < 1099511627776) (hy₀ : 0 ≤ y) (hy₁ : y < 18446744073709551616) (hy : y % 1099511627776 = 0) : Go.bits .or .u64 x y = y + x := by
 have h := bits_join .u64 64 (by decide) wraps_u64 40 y x hy₀ hy hy₁ hx₀ hx₁ (by omega)
 rw [← h]
 show IntKind.u64.wrap _ = IntKind.u64.wrap _
 rw [BitVec.or_comm]
def cl (a : Int) : Int := if a < -70368744177664 then -70368744177664 else if 70368744177663 < a then 70368744177663 else a
def od (a : Int) : Bool := decide (a < -70368744177664 ∨ 70368744177663 < a)
theorem BC (a : Int) : -70368744177664 ≤ cl a := by unfold cl; repeat' split <;> omega
theorem BD (a : Int) : cl a ≤ 70368744177663 := by unfold cl; repeat' split <;> omega
theorem zG (a : Int) : xC a = cl a := by unfold xC mn mx cl; repeat' split <;> omega
theorem Ic (a : Int) : CZ a = od a := by
 have e : (mn (mx a (-70368744177664)) 70368744177663) = cl a := zG a
 unfold CZ
 rw [e, Bool.eq_iff_iff, bne_iff_ne]
 unfold cl od
 simp only [decide_eq_true_eq]
 repeat' split <;> omega
theorem EL (a : Int) : gz.f a = some (cl a, od a) := by
 have h1 := zG a
 have h2 := Ic a
 unfold xC at h1
 unfold CZ at h2
 unfold gz.f
 rw [h2, h1]
theorem C9 (a b : Int) : fJ.f a b = some (cl a, cl b, od a || od b) := by
 unfold fJ.f
 rw [EL, EL]
 simp only [Option.bind_some]
 cases od a <;> simp
def sz (a : Int) : Int := if a < 0 then -a else a
theorem Vb (a : Int) : 0 ≤ sz a := by unfold sz; split <;> omega
theorem OT (a : Int) : sz (cl a) ≤ 70368744177664 := by have := BC a; have := BD a; unfold sz; split <;> omega
theorem BV (a : Int) (h0 : -70368744177664 ≤ a) (h1 : a ≤ 70368744177664) : dO.f a = some (sz a) := by
 unfold dO.f sz
 split
 · rw [zZ (by omega) (by omega), gG, Int.emod_eq_of_lt (by omega) (by omega)]
 · rw [gG, Int.emod_eq_of_lt (by omega) (by omega)]
def lw (X : Int) : Int :=
 let l := (X / 16777216) % 18446744073709551616
 if X % 16777216 > 8388608 then (l + 1) % 18446744073709551616 else if X % 16777216 = 8388608 then (if l % 2 = 1 then (l + 1) % 18446744073709551616 else l) else l
def sg (h l : Int) (s : Bool) : Int × Bool :=
 if h = 0 then (if l > 70368744177664 then (cl (if s = true then -70368744177664 else 70368744177664), true) else (cl (if s = true then -l else l), od (if s = true then -l else l))) else (cl (if s = true then -70368744177664 else 70368744177664), true)
theorem EW (h l : Int) (s : Bool) (hl : 0 ≤ l) : bF.f h l s = some (sg h l s) := by
 unfold bF.f sg
 have e1 : uY s 70368744177664 = if s = true then -70368744177664 else 70368744177664 := by unfold uY; cases s <;> simp [wrap64]
 rw [zG, e1]
 split
 · split
   · rfl
   · have e2 : uY s (wrap64 l) = if s = true then -l else l := by
      rw [zZ (by omega) (by omega)]
      unfold uY
      cases s <;> simp
      rw [zZ (by omega) (by omega)]
     rw [e2, zG, Ic]
 · rfl
def flag (o : Bool) (p : Int × Bool) : Int × Bool := (p.1, o || p.2)
theorem H6 (o : Bool) (p : Int × Bool) : (if o = true then (some (p.1, true)) else (some (p.1, p.2))) = some (flag o p) := by cases o <;> simp [flag]
theorem aaL (a b : Int) : yl.f a b = some (flag (od a || od b) (sg (sz (cl a) * sz (cl b) / 309485009821345068724781056) (lw (sz (cl a) * sz (cl b))) ((decide (cl a < 0)) != (decide (cl b < 0))))) := by
 have ha := OT a
 have hb := OT b
 have ha0 := Vb (cl a)
 have hb0 := Vb (cl b)
 have hX0 : 0 ≤ sz (cl a) * sz (cl b) := Int.mul_nonneg ha0 hb0
 have hX1 : sz (cl a) * sz (cl b) ≤ 70368744177664 * 70368744177664 := Int.mul_le_mul ha hb hb0 (by omega)
 unfold yl.f
 rw [C9]
 simp only [Option.bind_some]
 have c1 := BC a
 have c2 := BD a
 have c3 := BC b
 have c4 := BD b
 rw [BV _ (by omega) (by omega), BV _ (by omega) (by omega)]
 simp only [Option.bind_some]
 unfold bits_Mul64.f
 rw [if_pos ⟨ha0, by omega, hb0, by omega⟩]
 simp only [Option.bind_some]
 generalize ((decide (cl a < 0)) != (decide (cl b < 0))) = s
 generalize (od a || od b) = o
 generalize sz (cl a) * sz (cl b) = X at *
 rw [Y9 _ (by omega) (by omega), gG (X / _ * _)]
 have e1 : Go.bits .or .u64 (X % 18446744073709551616 / 16777216) (X / 18446744073709551616 * 1099511627776 % 18446744073709551616) = (X / 16777216) % 18446744073709551616 := by
  rw [ahR _ _ (by omega) (by omega) (by omega) (by omega) (by omega)]
  omega
 rw [e1, Tv _ (by omega) (by omega), gG]
 have e2 : X % 18446744073709551616 % 16777216 = X % 16777216 := by omega
 have e3 : X / 18446744073709551616 / 16777216 = X / 309485009821345068724781056 := by omega
 rw [e2, e3]
 have k0 : 0 ≤ lw X := by unfold lw; simp only []; repeat' split <;> omega
 rw [show (some (flag o (sg (X / 309485009821345068724781056) (lw X) s))) = (bF.f (X / 309485009821345068724781056) (lw X) s).bind fun bt => (if o = true then (some (bt.1, true)) else (some (bt.1, bt.2))) from by
  rw [EW _ _ _ k0]; simp only [Option.bind_some]; rw [H6]]
 unfold lw
 simp only []
 split
 · rfl
 · split
   · split <;> rfl
   · rfl
end Go.Proofs.Ytninmcmajbfccaa.PQ

namespace Go.Proofs.Ytninmcmajbfccaa.PQ
open Go.RowKit Go.Proofs.aH.bK Go.Proofs.aH.dG Go.Proofs.aH.dJ
theorem mask32 (x : Int) (h0 : 0 ≤ x) (h1 : x < 18446744073709551616) : Go.bits .and .u64 x 4294967295 = x % 4294967296 :=
 bits_mask .u64 64 (by decide) wraps_u64 32 (by decide) x h0 h1
section
variable {n1 n0 D U u q r : Int}
theorem LK (hD : D = n1 * 4294967296 + n0) (hp : 0 < D) (e : q * n1 + r = U) (h : q * n0 ≤ 4294967296 * r + u) : q ≤ (U * 4294967296 + u) / D := by
 refine Int.le_ediv_of_mul_le hp ?_
 rw [hD, Int.mul_add, ← Int.mul_assoc]
 omega
theorem zF (hp : 0 < D) (hU : U < D) (hu : u < 4294967296) : (U * 4294967296 + u) / D < 4294967296 := by
 refine Int.ediv_lt_of_lt_mul hp ?_
 omega
theorem H_ (hD : D = n1 * 4294967296 + n0) (hp : 0 < D) (e : q * n1 + r = U) (h : 4294967296 * r + u < q * n0) : (U * 4294967296 + u) / D < q := by
 refine Int.ediv_lt_of_lt_mul hp ?_
 rw [hD, Int.mul_add, ← Int.mul_assoc]
 omega
theorem Ia (hD : D = n1 * 4294967296 + n0) (hp : 0 < D) (h0 : 0 ≤ n0) (h0' : n0 < 4294967296) (hu0 : 0 ≤ u) (e : q * n1 + r = U) (hq0 : 1 ≤ q) (hq : q ≤ 4294967297) (h : 4294967296 ≤ r + n1) :
 q - 1 ≤ (U * 4294967296 + u) / D := by
 refine Int.le_ediv_of_mul_le hp ?_
 have h1 : (q - 1) * n0 ≤ 4294967296 * 4294967295 := Int.mul_le_mul (by omega) (by omega) h0 (by omega)
 rw [hD, Int.mul_add, ← Int.mul_assoc, Int.sub_mul q 1 n1]
 omega
theorem DR (hD : D = n1 * 4294967296 + n0) (h1 : 2147483648 ≤ n1) (h0 : 0 ≤ n0) (h0' : n0 < 4294967296) (Xy : 0 ≤ U) (hU : U < D) (hu0 : 0 ≤ u) (hu : u < 4294967296) :
 (U * 4294967296 + u) / D ≤ U / n1 ∧ U / n1 ≤ 4294967297 := by
 constructor
 · refine Int.le_ediv_of_mul_le (by omega) ?_
   have hp : 0 < D := by omega
   have h := Int.ediv_mul_le (U * 4294967296 + u) (b := D) (by omega)
   have hq0 : 0 ≤ (U * 4294967296 + u) / D := Int.ediv_nonneg (by omega) (by omega)
   generalize (U * 4294967296 + u) / D = Q at *
   have hn : 0 ≤ Q * n0 := Int.mul_nonneg hq0 h0
   rw [hD, Int.mul_add, ← Int.mul_assoc] at h
   omega
 · have := Int.ediv_lt_of_lt_mul (a := U) (b := 4294967298) (c := n1) (by omega) (by omega)
   omega
end
theorem Vm {a b : Int} (ha0 : 0 ≤ a) (ha : a < 4294967296) (hb0 : 0 ≤ b) (hb : b < 4294967296) : 0 ≤ a * b ∧ a * b < 18446744073709551616 := by
 have h1 : a * b ≤ 4294967295 * 4294967295 := Int.mul_le_mul (by omega) (by omega) hb0 (by omega)
 have h2 := Int.mul_nonneg ha0 hb0
 omega
theorem aaN {n1 n0 D U u : Int} (hD : D = n1 * 4294967296 + n0) (h1 : 2147483648 ≤ n1) (h1' : n1 < 4294967296) (h0 : 0 ≤ n0) (h0' : n0 < 4294967296) (Xy : 0 ≤ U) (hU : U < D) (hu0 : 0 ≤ u) (hu : u < 4294967296) (x8 x14 : Int) (res : Int × Int)
 (hres : Ev (fun k => bC.j2 k D x8 n1 n0 U u x14 ((U * 4294967296 + u) / D)) res) :
 ∀ (d : Nat) (q r : Int), q * n1 + r = U → 0 ≤ r → r < 4294967296 → (U * 4294967296 + u) / D ≤ q → q ≤ 4294967297 → q - (U * 4294967296 + u) / D = d → Ev (fun k => bC.l0 k D x8 n1 n0 U u x14 q r) res := by
 have hp : 0 < D := by omega
 have hQ0 : 0 ≤ (U * 4294967296 + u) / D := Int.ediv_nonneg (by omega) (by omega)
 have hQt := zF hp hU hu
 have hmore : ∀ (q r : Int), q * n1 + r = U → 0 ≤ r → r < 4294967296 → (U * 4294967296 + u) / D < q → q ≤ 4294967297 →
  (∀ r', (q - 1) * n1 + r' = U → 0 ≤ r' → r' < 4294967296 → Ev (fun k => bC.l0 k D x8 n1 n0 U u x14 (q - 1) r') res) → Ev (fun k => bC.j1 k D x8 n1 n0 U u x14 q r true) res := by
  intro q r e hr0 hr hlt hq ih
  have w1 : IntKind.u64.wrap (r + n1) = r + n1 := wraps_u64 _ (by omega) (by omega)
  have w2 : IntKind.u64.wrap (q - 1) = q - 1 := wraps_u64 _ (by omega) (by omega)
  by_cases hb : r + n1 ≥ 4294967296
  · refine Ev.step (f := fun k => bC.j2 k D x8 n1 n0 U u x14 (q - 1)) ?_ ?_
    · intro k
      simp only [bC.j1, if_true]
      rw [w1, if_pos hb, w2]
    · have := Ia hD hp h0 h0' hu0 e (by omega) hq hb
      rw [show q - 1 = (U * 4294967296 + u) / D by omega]
      exact hres
  · refine Ev.step (f := fun k => bC.l0 k D x8 n1 n0 U u x14 (q - 1) (r + n1)) ?_ (ih (r + n1) (by rw [Int.sub_mul]; omega) (by omega) (by omega))
    intro k
    simp only [bC.j1, if_true]
    rw [w1, if_neg hb, w2]
 intro d
 induction d with
 | zero =>
   intro q r e hr0 hr hle hq hd
   have hq' : q = (U * 4294967296 + u) / D := by omega
   have hq4 : q < 4294967296 := by omega
   have hn : ¬ (4294967296 * r + u < q * n0) := fun h => by
    have := H_ hD hp e h
    omega
   have hm := Vm (a := q) (b := n0) (by omega) hq4 h0 h0'
   refine Ev.step (f := fun k => bC.j1 k D x8 n1 n0 U u x14 q r false) ?_ (Ev.step (f := fun k => bC.j2 k D x8 n1 n0 U u x14 q) ?_ (by rw [hq']; exact hres))
   · intro k
     simp only [bC.l0]
     rw [if_neg (by omega), wraps_u64 (q * n0) (by omega) (by omega), wraps_u64 (4294967296 * r) (by omega) (by omega), wraps_u64 (4294967296 * r + u) (by omega) (by omega), decide_eq_false (by omega)]
   · intro k
     simp [bC.j1]
 | succ d ih =>
   intro q r e hr0 hr hle hq hd
   have hlt : (U * 4294967296 + u) / D < q := by omega
   have hy : q < 4294967296 → 4294967296 * r + u < q * n0 := fun _ => by
    rcases Int.lt_or_le (4294967296 * r + u) (q * n0) with h | h
    · exact h
    · have := LK hD hp e h
      omega
   refine Ev.step (f := fun k => bC.j1 k D x8 n1 n0 U u x14 q r true) ?_ (hmore q r e hr0 hr hlt hq fun r' e' a b => ih (q - 1) r' e' a b (by omega) (by omega) (by omega))
   intro k
   simp only [bC.l0]
   by_cases hq4 : q ≥ 4294967296
   · rw [if_pos hq4]
   · have hm := Vm (a := q) (b := n0) (by omega) (by omega) h0 h0'
     have := hy (by omega)
     rw [if_neg hq4, wraps_u64 (q * n0) (by omega) (by omega), wraps_u64 (4294967296 * r) (by omega) (by omega), wraps_u64 (4294967296 * r + u) (by omega) (by omega), decide_eq_true (by omega)]
theorem aaM {n1 n0 D U u : Int} (hD : D = n1 * 4294967296 + n0) (h1 : 2147483648 ≤ n1) (h1' : n1 < 4294967296) (h0 : 0 ≤ n0) (h0' : n0 < 4294967296) (Xy : 0 ≤ U) (hU : U < D) (hu0 : 0 ≤ u) (hu : u < 4294967296) (x8 x15 : Int) (h8 : 0 ≤ x8) :
 ∀ (d : Nat) (q r : Int), q * n1 + r = U → 0 ≤ r → r < 4294967296 → (U * 4294967296 + u) / D ≤ q → q ≤ 4294967297 → q - (U * 4294967296 + u) / D = d →
   Ev (fun k => bC.l1 k D x8 n1 n0 u x15 r U q) (IntKind.u64.wrap (IntKind.u64.wrap (x15 * 4294967296) + (U * 4294967296 + u) / D),
    shr .u64 (IntKind.u64.wrap (IntKind.u64.wrap (IntKind.u64.wrap (U * 4294967296) + u) - IntKind.u64.wrap ((U * 4294967296 + u) / D * D))) x8) := by
 have hp : 0 < D := by omega
 have hQ0 : 0 ≤ (U * 4294967296 + u) / D := Int.ediv_nonneg (by omega) (by omega)
 have hQt := zF hp hU hu
 have hmore : ∀ (res : Int × Int), res = (IntKind.u64.wrap (IntKind.u64.wrap (x15 * 4294967296) + (U * 4294967296 + u) / D), shr .u64 (IntKind.u64.wrap (IntKind.u64.wrap (IntKind.u64.wrap (U * 4294967296) + u) - IntKind.u64.wrap ((U * 4294967296 + u) / D * D))) x8) →
  ∀ (q r : Int), q * n1 + r = U → 0 ≤ r → r < 4294967296 → (U * 4294967296 + u) / D < q → q ≤ 4294967297 →
  (∀ r', (q - 1) * n1 + r' = U → 0 ≤ r' → r' < 4294967296 → Ev (fun k => bC.l1 k D x8 n1 n0 u x15 r' U (q - 1)) res) → Ev (fun k => bC.j4 k D x8 n1 n0 u x15 r U q true) res := by
  intro res hres q r e hr0 hr hlt hq ih
  have w1 : IntKind.u64.wrap (r + n1) = r + n1 := wraps_u64 _ (by omega) (by omega)
  have w2 : IntKind.u64.wrap (q - 1) = q - 1 := wraps_u64 _ (by omega) (by omega)
  by_cases hb : r + n1 ≥ 4294967296
  · refine Ev.step (f := fun _ => some res) ?_ (Ev.now _)
    intro k
    have := Ia hD hp h0 h0' hu0 e (by omega) hq hb
    have hqe : q - 1 = (U * 4294967296 + u) / D := by omega
    simp only [bC.j4, if_true]
    rw [w1, if_pos hb, w2, if_pos h8, hqe, hres]
  · refine Ev.step (f := fun k => bC.l1 k D x8 n1 n0 u x15 (r + n1) U (q - 1)) ?_ (ih (r + n1) (by rw [Int.sub_mul]; omega) (by omega) (by omega))
    intro k
    simp only [bC.j4, if_true]
    rw [w1, if_neg hb, w2]
 intro d
 induction d with
 | zero =>
   intro q r e hr0 hr hle hq hd
   have hq' : q = (U * 4294967296 + u) / D := by omega
   have hq4 : q < 4294967296 := by omega
   have hn : ¬ (4294967296 * r + u < q * n0) := fun h => by
    have := H_ hD hp e h
    omega
   have hm := Vm (a := q) (b := n0) (by omega) hq4 h0 h0'
   rw [← hq']
   refine Ev.step (f := fun k => bC.j4 k D x8 n1 n0 u x15 r U q false) ?_ (Ev.step (f := fun _ => some (_, _)) ?_ (Ev.now _))
   · intro k
     simp only [bC.l1]
     rw [if_neg (by omega), wraps_u64 (q * n0) (by omega) (by omega), wraps_u64 (4294967296 * r) (by omega) (by omega), wraps_u64 (4294967296 * r + u) (by omega) (by omega), decide_eq_false (by omega)]
   · intro k
     simp only [bC.j4, Bool.false_eq_true, if_false]
     rw [if_pos h8]
 | succ d ih =>
   intro q r e hr0 hr hle hq hd
   have hlt : (U * 4294967296 + u) / D < q := by omega
   have hy : q < 4294967296 → 4294967296 * r + u < q * n0 := fun _ => by
    rcases Int.lt_or_le (4294967296 * r + u) (q * n0) with h | h
    · exact h
    · have := LK hD hp e h
      omega
   refine Ev.step (f := fun k => bC.j4 k D x8 n1 n0 u x15 r U q true) ?_ (hmore _ rfl q r e hr0 hr hlt hq fun r' e' a b => ih (q - 1) r' e' a b (by omega) (by omega) (by omega))
   intro k
   simp only [bC.l1]
   by_cases hq4 : q ≥ 4294967296
   · rw [if_pos hq4]
   · have hm := Vm (a := q) (b := n0) (by omega) (by omega) h0 h0'
     have := hy (by omega)
     rw [if_neg hq4, wraps_u64 (q * n0) (by omega) (by omega), wraps_u64 (4294967296 * r) (by omega) (by omega), wraps_u64 (4294967296 * r + u) (by omega) (by omega), decide_eq_true (by omega)]
end Go.Proofs.Ytninmcmajbfccaa.PQ

