import Derived.Test.YtnijhjbcjeohhaaV2
/- Joined and thinned by a program of this session's own (wip/pack2.py) out of its texts (wip/ of its repo); parts were laid by its own program (wip/print-patch.py over the kit's print) out of the translation; Lean checks all. -/
set_option maxRecDepth 100000
set_option maxHeartbeats 8000000
namespace Go.Proofs.Ytnijhjbcjeohhaa.PQ
open Go.RowKit Go.Proofs.af.aO Go.Proofs.af.aU Go.Proofs.af.aV
attribute [local go_sem] gW gU jq jo fP fO gV gQ
set_option linter.unusedVariables false
set_option linter.unusedSimpArgs false
mutual
def aQ.j2 : Nat → Int → Int → Int → Int → Int → Int → Int → Int → Option (Int × Int)
 | 0, _, _, _, _, _, _, _, _ => none
 | k + 1, x2, x8, x9, x10, x11, C_, x14, x15 => if x9 = 0 then (none) else (aQ.l1 k x2 x8 x9 x10 x14 x15 (IntKind.u64.wrap ((IntKind.u64.wrap ((IntKind.u64.wrap ((IntKind.u64.wrap (x11 * 4294967296)) + C_)) - (IntKind.u64.wrap (x15 * x2)))) - (IntKind.u64.wrap ((IntKind.u64.wrap (Int.tdiv (IntKind.u64.wrap ((IntKind.u64.wrap ((IntKind.u64.wrap (x11 * 4294967296)) + C_)) - (IntKind.u64.wrap (x15 * x2)))) x9)) * x9)))) (IntKind.u64.wrap ((IntKind.u64.wrap ((IntKind.u64.wrap (x11 * 4294967296)) + C_)) - (IntKind.u64.wrap (x15 * x2)))) (IntKind.u64.wrap (Int.tdiv (IntKind.u64.wrap ((IntKind.u64.wrap ((IntKind.u64.wrap (x11 * 4294967296)) + C_)) - (IntKind.u64.wrap (x15 * x2)))) x9)))
def aQ.l1 : Nat → Int → Int → Int → Int → Int → Int → Int → Int → Int → Option (Int × Int)
 | 0, _, _, _, _, _, _, _, _, _ => none
 | k + 1, x2, x8, x9, x10, x14, x15, x16, x17, x18 => if x18 ≥ 4294967296 then (aQ.j4 k x2 x8 x9 x10 x14 x15 x16 x17 x18 true) else (aQ.j4 k x2 x8 x9 x10 x14 x15 x16 x17 x18 (decide ((IntKind.u64.wrap (x18 * x10)) > (IntKind.u64.wrap ((IntKind.u64.wrap (4294967296 * x16)) + x14)))))
def aQ.j4 : Nat → Int → Int → Int → Int → Int → Int → Int → Int → Int → Bool → Option (Int × Int)
 | 0, _, _, _, _, _, _, _, _, _, _ => none
 | k + 1, x2, x8, x9, x10, x14, x15, x16, x17, x18, x113 => if x113 = true then (if (IntKind.u64.wrap (x16 + x9)) ≥ 4294967296 then (if 0 ≤ x8 then (some (IntKind.u64.wrap ((IntKind.u64.wrap (x15 * 4294967296)) + (IntKind.u64.wrap (x18 - 1))), shr .u64 (IntKind.u64.wrap ((IntKind.u64.wrap ((IntKind.u64.wrap (x17 * 4294967296)) + x14)) - (IntKind.u64.wrap ((IntKind.u64.wrap (x18 - 1)) * x2)))) x8)) else (none)) else (aQ.l1 k x2 x8 x9 x10 x14 x15 (IntKind.u64.wrap (x16 + x9)) x17 (IntKind.u64.wrap (x18 - 1)))) else (if 0 ≤ x8 then (some (IntKind.u64.wrap ((IntKind.u64.wrap (x15 * 4294967296)) + x18), shr .u64 (IntKind.u64.wrap ((IntKind.u64.wrap ((IntKind.u64.wrap (x17 * 4294967296)) + x14)) - (IntKind.u64.wrap (x18 * x2)))) x8)) else (none))
def aQ.l0 : Nat → Int → Int → Int → Int → Int → Int → Int → Int → Int → Option (Int × Int)
 | 0, _, _, _, _, _, _, _, _, _ => none
 | k + 1, x2, x8, x9, x10, x11, C_, x14, x15, x16 => if x15 ≥ 4294967296 then (aQ.j1 k x2 x8 x9 x10 x11 C_ x14 x15 x16 true) else (aQ.j1 k x2 x8 x9 x10 x11 C_ x14 x15 x16 (decide ((IntKind.u64.wrap (x15 * x10)) > (IntKind.u64.wrap ((IntKind.u64.wrap (4294967296 * x16)) + C_)))))
def aQ.j1 : Nat → Int → Int → Int → Int → Int → Int → Int → Int → Int → Bool → Option (Int × Int)
 | 0, _, _, _, _, _, _, _, _, _, _ => none
 | k + 1, x2, x8, x9, x10, x11, C_, x14, x15, x16, x78 => if x78 = true then (if (IntKind.u64.wrap (x16 + x9)) ≥ 4294967296 then (aQ.j2 k x2 x8 x9 x10 x11 C_ x14 (IntKind.u64.wrap (x15 - 1))) else (aQ.l0 k x2 x8 x9 x10 x11 C_ x14 (IntKind.u64.wrap (x15 - 1)) (IntKind.u64.wrap (x16 + x9)))) else (aQ.j2 k x2 x8 x9 x10 x11 C_ x14 x15)
end
def aQ.f (k : Nat) (a0 : Int) (a1 : Int) (a2 : Int) : Option (Int × Int) := if a2 = 0 then (none) else (if a2 ≤ a0 then (none) else (if a0 = 0 then (some (IntKind.u64.wrap (Int.tdiv a1 a2), Int.tmod a1 a2)) else ((bits_LeadingZeros64.f a2).bind fun t120 => (if 0 ≤ (IntKind.u64.wrap (t120)) then (if 0 ≤ (IntKind.u64.wrap (64 - (IntKind.u64.wrap (t120)))) then (if ((shl .u64 a2 (IntKind.u64.wrap (t120))) / 4294967296) = 0 then (none) else (aQ.l0 k (shl .u64 a2 (IntKind.u64.wrap (t120))) (IntKind.u64.wrap (t120)) ((shl .u64 a2 (IntKind.u64.wrap (t120))) / 4294967296) (Go.bits .and .u64 (shl .u64 a2 (IntKind.u64.wrap (t120))) 4294967295) (Go.bits .or .u64 (shl .u64 a0 (IntKind.u64.wrap (t120))) (shr .u64 a1 (IntKind.u64.wrap (64 - (IntKind.u64.wrap (t120)))))) ((shl .u64 a1 (IntKind.u64.wrap (t120))) / 4294967296) (Go.bits .and .u64 (shl .u64 a1 (IntKind.u64.wrap (t120))) 4294967295) (IntKind.u64.wrap (Int.tdiv (Go.bits .or .u64 (shl .u64 a0 (IntKind.u64.wrap (t120))) (shr .u64 a1 (IntKind.u64.wrap (64 - (IntKind.u64.wrap (t120)))))) ((shl .u64 a2 (IntKind.u64.wrap (t120))) / 4294967296))) (IntKind.u64.wrap ((Go.bits .or .u64 (shl .u64 a0 (IntKind.u64.wrap (t120))) (shr .u64 a1 (IntKind.u64.wrap (64 - (IntKind.u64.wrap (t120)))))) - (IntKind.u64.wrap ((IntKind.u64.wrap (Int.tdiv (Go.bits .or .u64 (shl .u64 a0 (IntKind.u64.wrap (t120))) (shr .u64 a1 (IntKind.u64.wrap (64 - (IntKind.u64.wrap (t120)))))) ((shl .u64 a2 (IntKind.u64.wrap (t120))) / 4294967296))) * ((shl .u64 a2 (IntKind.u64.wrap (t120))) / 4294967296))))))) else (none)) else (none)))))
theorem aQ.calls (k : Nat) (a0 : Int) (a1 : Int) (a2 : Int) (r1 : Int) (r2 : Int) (w : World) (h : aQ.f k a0 a1 a2 = some (r1, r2)) :
 Calls Try.prog 112 #[.int .u64 a0, .int .u64 a1, .int .u64 a2] w fun e w' => e = .returned (.tuple #[.int .u64 r1, .int .u64 r2]) ∧ bH w w' := by
 have H : (if a2 = 0 then (none) else (if a2 ≤ a0 then (none) else (if a0 = 0 then (some (IntKind.u64.wrap (Int.tdiv a1 a2), Int.tmod a1 a2)) else ((bits_LeadingZeros64.f a2).bind fun t120 => (if 0 ≤ (IntKind.u64.wrap (t120)) then (if 0 ≤ (IntKind.u64.wrap (64 - (IntKind.u64.wrap (t120)))) then (if ((shl .u64 a2 (IntKind.u64.wrap (t120))) / 4294967296) = 0 then (none) else (aQ.l0 k (shl .u64 a2 (IntKind.u64.wrap (t120))) (IntKind.u64.wrap (t120)) ((shl .u64 a2 (IntKind.u64.wrap (t120))) / 4294967296) (Go.bits .and .u64 (shl .u64 a2 (IntKind.u64.wrap (t120))) 4294967295) (Go.bits .or .u64 (shl .u64 a0 (IntKind.u64.wrap (t120))) (shr .u64 a1 (IntKind.u64.wrap (64 - (IntKind.u64.wrap (t120)))))) ((shl .u64 a1 (IntKind.u64.wrap (t120))) / 4294967296) (Go.bits .and .u64 (shl .u64 a1 (IntKind.u64.wrap (t120))) 4294967295) (IntKind.u64.wrap (Int.tdiv (Go.bits .or .u64 (shl .u64 a0 (IntKind.u64.wrap (t120))) (shr .u64 a1 (IntKind.u64.wrap (64 - (IntKind.u64.wrap (t120)))))) ((shl .u64 a2 (IntKind.u64.wrap (t120))) / 4294967296))) (IntKind.u64.wrap ((Go.bits .or .u64 (shl .u64 a0 (IntKind.u64.wrap (t120))) (shr .u64 a1 (IntKind.u64.wrap (64 - (IntKind.u64.wrap (t120)))))) - (IntKind.u64.wrap ((IntKind.u64.wrap (Int.tdiv (Go.bits .or .u64 (shl .u64 a0 (IntKind.u64.wrap (t120))) (shr .u64 a1 (IntKind.u64.wrap (64 - (IntKind.u64.wrap (t120)))))) ((shl .u64 a2 (IntKind.u64.wrap (t120))) / 4294967296))) * ((shl .u64 a2 (IntKind.u64.wrap (t120))) / 4294967296))))))) else (none)) else (none)))))) = some (r1, r2) := h
 clear h
 by_cases c4 : a2 = 0
 · rw [if_pos c4] at H
   exact absurd H (by simp)
 · rw [if_neg c4] at H
   have tC : (a2 == 0) = false := beq_eq_false_iff_ne.mpr c4
   have J9 : (a2 != 0) = true := bne_iff_ne.mpr c4
   by_cases c5 : a2 ≤ a0
   · rw [if_pos c5] at H
     exact absurd H (by simp)
   · rw [if_neg c5] at H
     have y5 : decide (a2 ≤ a0) = false := decide_eq_false c5
     clear c5
     by_cases c6 : a0 = 0
     · rw [if_pos c6] at H
       have vS : (a0 == 0) = true := beq_iff_eq.mpr c6
       have OH : (a0 != 0) = false := bne_eq_false_iff_eq.mpr c6
       clear c6
       simp only [Option.some.injEq, Prod.mk.injEq] at H
       obtain ⟨rfl, rfl⟩ := H
       go_enter Try.func112, Try.ntmps112
       go_wp2
       repeat (go_quiet (fail); try go_wp2)
       go_ret2
       exact ⟨by first | rfl | (simp; done) | (simp [*]; done), by repeat (first | exact bH.refl _ | apply bH.step)⟩
     · rw [if_neg c6] at H
       have vS : (a0 == 0) = false := beq_eq_false_iff_ne.mpr c6
       have OH : (a0 != 0) = true := bne_iff_ne.mpr c6
       replace H := Option.bind_eq_some_iff.mp H
       obtain ⟨t120, Vq, H⟩ := H
       replace H : (if 0 ≤ (IntKind.u64.wrap (t120)) then (if 0 ≤ (IntKind.u64.wrap (64 - (IntKind.u64.wrap (t120)))) then (if ((shl .u64 a2 (IntKind.u64.wrap (t120))) / 4294967296) = 0 then (none) else (aQ.l0 k (shl .u64 a2 (IntKind.u64.wrap (t120))) (IntKind.u64.wrap (t120)) ((shl .u64 a2 (IntKind.u64.wrap (t120))) / 4294967296) (Go.bits .and .u64 (shl .u64 a2 (IntKind.u64.wrap (t120))) 4294967295) (Go.bits .or .u64 (shl .u64 a0 (IntKind.u64.wrap (t120))) (shr .u64 a1 (IntKind.u64.wrap (64 - (IntKind.u64.wrap (t120)))))) ((shl .u64 a1 (IntKind.u64.wrap (t120))) / 4294967296) (Go.bits .and .u64 (shl .u64 a1 (IntKind.u64.wrap (t120))) 4294967295) (IntKind.u64.wrap (Int.tdiv (Go.bits .or .u64 (shl .u64 a0 (IntKind.u64.wrap (t120))) (shr .u64 a1 (IntKind.u64.wrap (64 - (IntKind.u64.wrap (t120)))))) ((shl .u64 a2 (IntKind.u64.wrap (t120))) / 4294967296))) (IntKind.u64.wrap ((Go.bits .or .u64 (shl .u64 a0 (IntKind.u64.wrap (t120))) (shr .u64 a1 (IntKind.u64.wrap (64 - (IntKind.u64.wrap (t120)))))) - (IntKind.u64.wrap ((IntKind.u64.wrap (Int.tdiv (Go.bits .or .u64 (shl .u64 a0 (IntKind.u64.wrap (t120))) (shr .u64 a1 (IntKind.u64.wrap (64 - (IntKind.u64.wrap (t120)))))) ((shl .u64 a2 (IntKind.u64.wrap (t120))) / 4294967296))) * ((shl .u64 a2 (IntKind.u64.wrap (t120))) / 4294967296))))))) else (none)) else (none)) = some (r1, r2) := H
       have A7 := aj.mk Vq
       clear Vq
       obtain ⟨iE, P8⟩ : ∃ j_ : Int, (IntKind.u64.wrap (t120)) = j_ := ⟨_, rfl⟩
       replace H : (if 0 ≤ (iE) then (if 0 ≤ (IntKind.u64.wrap (64 - (iE))) then (if ((shl .u64 a2 (iE)) / 4294967296) = 0 then (none) else (aQ.l0 k (shl .u64 a2 (iE)) iE ((shl .u64 a2 (iE)) / 4294967296) (Go.bits .and .u64 (shl .u64 a2 (iE)) 4294967295) (Go.bits .or .u64 (shl .u64 a0 (iE)) (shr .u64 a1 (IntKind.u64.wrap (64 - (iE))))) ((shl .u64 a1 (iE)) / 4294967296) (Go.bits .and .u64 (shl .u64 a1 (iE)) 4294967295) (IntKind.u64.wrap (Int.tdiv (Go.bits .or .u64 (shl .u64 a0 (iE)) (shr .u64 a1 (IntKind.u64.wrap (64 - (iE))))) ((shl .u64 a2 (iE)) / 4294967296))) (IntKind.u64.wrap ((Go.bits .or .u64 (shl .u64 a0 (iE)) (shr .u64 a1 (IntKind.u64.wrap (64 - (iE))))) - (IntKind.u64.wrap ((IntKind.u64.wrap (Int.tdiv (Go.bits .or .u64 (shl .u64 a0 (iE)) (shr .u64 a1 (IntKind.u64.wrap (64 - (iE))))) ((shl .u64 a2 (iE)) / 4294967296))) * ((shl .u64 a2 (iE)) / 4294967296))))))) else (none)) else (none)) = some (r1, r2) := by first | (rw [P8] at H; exact H) | (simp only [P8] at H ⊢; exact H)
       (try rw [P8] at A7)
       by_cases c9 : 0 ≤ (iE)
       · rw [if_pos c9] at H
         have Iw := eq_true c9
         have J8 : decide (0 ≤ (iE)) = true := decide_eq_true c9
         clear c9
         obtain ⟨dF, oC⟩ : ∃ j_ : Int, (shl .u64 a2 (iE)) = j_ := ⟨_, rfl⟩
         replace H : (if 0 ≤ (IntKind.u64.wrap (64 - (iE))) then (if ((dF) / 4294967296) = 0 then (none) else (aQ.l0 k dF iE ((dF) / 4294967296) (Go.bits .and .u64 (dF) 4294967295) (Go.bits .or .u64 (shl .u64 a0 (iE)) (shr .u64 a1 (IntKind.u64.wrap (64 - (iE))))) ((shl .u64 a1 (iE)) / 4294967296) (Go.bits .and .u64 (shl .u64 a1 (iE)) 4294967295) (IntKind.u64.wrap (Int.tdiv (Go.bits .or .u64 (shl .u64 a0 (iE)) (shr .u64 a1 (IntKind.u64.wrap (64 - (iE))))) ((dF) / 4294967296))) (IntKind.u64.wrap ((Go.bits .or .u64 (shl .u64 a0 (iE)) (shr .u64 a1 (IntKind.u64.wrap (64 - (iE))))) - (IntKind.u64.wrap ((IntKind.u64.wrap (Int.tdiv (Go.bits .or .u64 (shl .u64 a0 (iE)) (shr .u64 a1 (IntKind.u64.wrap (64 - (iE))))) ((dF) / 4294967296))) * ((dF) / 4294967296))))))) else (none)) = some (r1, r2) := by first | (rw [oC] at H; exact H) | (simp only [oC] at H ⊢; exact H)
         (try rw [oC] at A7)
         have adv : (IntKind.u64.wrap (a2 * 2 ^ min (iE).toNat 64)) = dF := oC
         have adu : (iE) ≤ 64 → (IntKind.u64.wrap (a2 * 2 ^ (iE).toNat)) = dF := xK oC
         have BI := eq_true (of_decide_eq_true (by first | (with_reducible assumption) | assumption) : 0 ≤ (iE))
         obtain ⟨jl, sO⟩ : ∃ j_ : Int, (shl .u64 a0 (iE)) = j_ := ⟨_, rfl⟩
         replace H : (if 0 ≤ (IntKind.u64.wrap (64 - (iE))) then (if ((dF) / 4294967296) = 0 then (none) else (aQ.l0 k dF iE ((dF) / 4294967296) (Go.bits .and .u64 (dF) 4294967295) (Go.bits .or .u64 (jl) (shr .u64 a1 (IntKind.u64.wrap (64 - (iE))))) ((shl .u64 a1 (iE)) / 4294967296) (Go.bits .and .u64 (shl .u64 a1 (iE)) 4294967295) (IntKind.u64.wrap (Int.tdiv (Go.bits .or .u64 (jl) (shr .u64 a1 (IntKind.u64.wrap (64 - (iE))))) ((dF) / 4294967296))) (IntKind.u64.wrap ((Go.bits .or .u64 (jl) (shr .u64 a1 (IntKind.u64.wrap (64 - (iE))))) - (IntKind.u64.wrap ((IntKind.u64.wrap (Int.tdiv (Go.bits .or .u64 (jl) (shr .u64 a1 (IntKind.u64.wrap (64 - (iE))))) ((dF) / 4294967296))) * ((dF) / 4294967296))))))) else (none)) = some (r1, r2) := by first | (rw [sO] at H; exact H) | (simp only [sO] at H ⊢; exact H)
         (try rw [sO] at A7)
         have adt : (IntKind.u64.wrap (a0 * 2 ^ min (iE).toNat 64)) = jl := sO
         have ads : (iE) ≤ 64 → (IntKind.u64.wrap (a0 * 2 ^ (iE).toNat)) = jl := xK sO
         obtain ⟨Aw, H9⟩ : ∃ j_ : Int, (IntKind.u64.wrap (64 - (iE))) = j_ := ⟨_, rfl⟩
         replace H : (if 0 ≤ (Aw) then (if ((dF) / 4294967296) = 0 then (none) else (aQ.l0 k dF iE ((dF) / 4294967296) (Go.bits .and .u64 (dF) 4294967295) (Go.bits .or .u64 (jl) (shr .u64 a1 (Aw))) ((shl .u64 a1 (iE)) / 4294967296) (Go.bits .and .u64 (shl .u64 a1 (iE)) 4294967295) (IntKind.u64.wrap (Int.tdiv (Go.bits .or .u64 (jl) (shr .u64 a1 (Aw))) ((dF) / 4294967296))) (IntKind.u64.wrap ((Go.bits .or .u64 (jl) (shr .u64 a1 (Aw))) - (IntKind.u64.wrap ((IntKind.u64.wrap (Int.tdiv (Go.bits .or .u64 (jl) (shr .u64 a1 (Aw))) ((dF) / 4294967296))) * ((dF) / 4294967296))))))) else (none)) = some (r1, r2) := by first | (rw [H9] at H; exact H) | (simp only [H9] at H ⊢; exact H)
         (try rw [H9] at A7)
         by_cases c14 : 0 ≤ (Aw)
         · rw [if_pos c14] at H
           have nD := eq_true c14
           have rH : decide (0 ≤ (Aw)) = true := decide_eq_true c14
           clear c14
           obtain ⟨lG, sN⟩ : ∃ j_ : Int, (shr .u64 a1 (Aw)) = j_ := ⟨_, rfl⟩
           replace H : (if ((dF) / 4294967296) = 0 then (none) else (aQ.l0 k dF iE ((dF) / 4294967296) (Go.bits .and .u64 (dF) 4294967295) (Go.bits .or .u64 (jl) (lG)) ((shl .u64 a1 (iE)) / 4294967296) (Go.bits .and .u64 (shl .u64 a1 (iE)) 4294967295) (IntKind.u64.wrap (Int.tdiv (Go.bits .or .u64 (jl) (lG)) ((dF) / 4294967296))) (IntKind.u64.wrap ((Go.bits .or .u64 (jl) (lG)) - (IntKind.u64.wrap ((IntKind.u64.wrap (Int.tdiv (Go.bits .or .u64 (jl) (lG)) ((dF) / 4294967296))) * ((dF) / 4294967296))))))) = some (r1, r2) := by first | (rw [sN] at H; exact H) | (simp only [sN] at H ⊢; exact H)
           (try rw [sN] at A7)
           have adq : (a1 / 2 ^ min (Aw).toNat 64) = lG := sN
           have adp : (Aw) ≤ 64 → (a1 / 2 ^ (Aw).toNat) = lG := xJ sN
           have DK := eq_true (of_decide_eq_true (by first | (with_reducible assumption) | assumption) : 0 ≤ (iE))
           obtain ⟨iR, oz⟩ : ∃ j_ : Int, (shl .u64 a1 (iE)) = j_ := ⟨_, rfl⟩
           replace H : (if ((dF) / 4294967296) = 0 then (none) else (aQ.l0 k dF iE ((dF) / 4294967296) (Go.bits .and .u64 (dF) 4294967295) (Go.bits .or .u64 (jl) (lG)) ((iR) / 4294967296) (Go.bits .and .u64 (iR) 4294967295) (IntKind.u64.wrap (Int.tdiv (Go.bits .or .u64 (jl) (lG)) ((dF) / 4294967296))) (IntKind.u64.wrap ((Go.bits .or .u64 (jl) (lG)) - (IntKind.u64.wrap ((IntKind.u64.wrap (Int.tdiv (Go.bits .or .u64 (jl) (lG)) ((dF) / 4294967296))) * ((dF) / 4294967296))))))) = some (r1, r2) := by first | (rw [oz] at H; exact H) | (simp only [oz] at H ⊢; exact H)
           (try rw [oz] at A7)
           have V8 : (IntKind.u64.wrap (a1 * 2 ^ min (iE).toNat 64)) = iR := oz
           have ado : (iE) ≤ 64 → (IntKind.u64.wrap (a1 * 2 ^ (iE).toNat)) = iR := xK oz
           by_cases c18 : ((dF) / 4294967296) = 0
           · rw [if_pos c18] at H
             exact absurd H (by simp)
           · rw [if_neg c18] at H
             have Iz : (((dF) / 4294967296) == 0) = false := beq_eq_false_iff_ne.mpr c18
             have Iy : (((dF) / 4294967296) != 0) = true := bne_iff_ne.mpr c18
             have XE := aj.mk H
             clear H
             go_enter Try.func112, Try.ntmps112
             go_upto_block 0 with (first | (go_at_call 121; (with_reducible refine (bits_LeadingZeros64.calls a2 t120 _ A7.out).mono ?_); rintro e w' ⟨rfl, ⟨nd, rfl⟩⟩; (try first | exact ⟨rfl, _, World.drewN_drewN _ _ _⟩ | exact ⟨rfl, _, Eq.trans (World.drewN_drewN _ _ _) (congrArg (World.drewN _) (Nat.add_assoc _ _ _))⟩)))
             repeat (go_quiet (first | (go_at_call 121; (with_reducible refine (bits_LeadingZeros64.calls a2 t120 _ A7.out).mono ?_); rintro e w' ⟨rfl, ⟨nd, rfl⟩⟩; (try first | exact ⟨rfl, _, World.drewN_drewN _ _ _⟩ | exact ⟨rfl, _, Eq.trans (World.drewN_drewN _ _ _) (congrArg (World.drewN _) (Nat.add_assoc _ _ _))⟩))); go_upto_block 0 with (first | (go_at_call 121; (with_reducible refine (bits_LeadingZeros64.calls a2 t120 _ A7.out).mono ?_); rintro e w' ⟨rfl, ⟨nd, rfl⟩⟩; (try first | exact ⟨rfl, _, World.drewN_drewN _ _ _⟩ | exact ⟨rfl, _, Eq.trans (World.drewN_drewN _ _ _) (congrArg (World.drewN _) (Nat.add_assoc _ _ _))⟩))))
             (try simp only [Act.put, List.setIfInBounds_toArray, List.set_cons_zero, List.set_cons_succ])
             go_cut [15] (fun v15 wc => ∃ (kq : Nat) (iF : Int), v15 = .int .u64 iF ∧ aj (aQ.j2 kq dF iE ((dF) / 4294967296) (Go.bits .and .u64 (dF) 4294967295) (Go.bits .or .u64 (jl) (lG)) ((iR) / 4294967296) (Go.bits .and .u64 (iR) 4294967295) iF = some (r1, r2)) ∧ aj (kq ≤ k) ∧ bH w wc)
             case first =>
              have H := XE.out
              clear XE
              have H' := aj.mk H
              clear H
              go_wp2
              repeat (go_quiet (fail); try go_wp2)
              go_loopg [15, 16] k (fun kq v15 v16 w' => ∃ (iG : Int) (vZ : Int), v15 = .int .u64 iG ∧ v16 = .int .u64 vZ ∧ aj (aQ.l0 kq dF iE ((dF) / 4294967296) (Go.bits .and .u64 (dF) 4294967295) (Go.bits .or .u64 (jl) (lG)) ((iR) / 4294967296) (Go.bits .and .u64 (iR) 4294967295) iG vZ = some (r1, r2)) ∧ aj (kq ≤ k) ∧ bH w w')
              case atStart => exact ⟨(IntKind.u64.wrap (Int.tdiv (Go.bits .or .u64 (jl) (lG)) ((dF) / 4294967296))), (IntKind.u64.wrap ((Go.bits .or .u64 (jl) (lG)) - (IntKind.u64.wrap ((IntKind.u64.wrap (Int.tdiv (Go.bits .or .u64 (jl) (lG)) ((dF) / 4294967296))) * ((dF) / 4294967296))))), (by first | rfl | (simp; done) | (simp only [← oC, ← sO, ← sN] <;> (first | rfl | simp)) | (simp [*]; done)), (by first | rfl | (simp; done) | (simp only [← oC, ← sO, ← sN] <;> (first | rfl | simp)) | (simp [*]; done)), H', ⟨Nat.le_refl _⟩, by repeat (first | exact bH.refl _ | apply bH.step)⟩
              case round =>
               clear H'
               try clear c1
               try clear p2
               try clear c4
               try clear tC
               try clear J9
               try clear c5
               try clear y5
               try clear c6
               try clear vS
               try clear OH
               try clear c9
               try clear Iw
               try clear J8
               try clear c11
               try clear BI
               try clear c14
               try clear nD
               try clear rH
               try clear c16
               try clear DK
               try clear c18
               try clear Iz
               try clear Iy
               obtain ⟨iG, vZ, rfl, rfl, HA, xC, ⟨m1, rfl⟩⟩ := hrel
               cases gk with
               | zero => exact absurd HA.out (by simp [aQ.l0])
               | succ k1 =>
                 have H := HA.out
                 clear HA
                 simp only [aQ.l0] at H
                 have XD := aj.mk H
                 clear H
                 go_upto_region 17 with (fail)
                 repeat (go_quiet (fail); go_upto_region 17 with (fail))
                 go_cut [78] (fun v78 wc => ∃ (kq : Nat) (D7 : Bool), v78 = .bool D7 ∧ aj (aQ.j1 kq dF iE ((dF) / 4294967296) (Go.bits .and .u64 (dF) 4294967295) (Go.bits .or .u64 (jl) (lG)) ((iR) / 4294967296) (Go.bits .and .u64 (iR) 4294967295) iG vZ D7 = some (r1, r2)) ∧ aj (kq ≤ k1) ∧ bH w wc)
                 case first =>
                  have H := XD.out
                  clear XD
                  by_cases c21 : iG ≥ 4294967296
                  · rw [if_pos c21] at H
                    have tH : decide (4294967296 ≤ iG) = true := decide_eq_true c21
                    clear c21
                    (first | rw [tH] | (simp only [bY, bZ]; rw [tH]) | skip)
                    have H' := aj.mk H
                    clear H
                    go_wp2
                    repeat (go_quiet (fail); try go_wp2)
                    go_meet
                    case rel => exact ⟨_, (true), (by first | rfl | (simp; done) | (simp [*]; done)), H', ⟨by have := xC.out; first | omega | exact Nat.le_refl _⟩, by repeat (first | exact bH.refl _ | apply bH.step)⟩
                  · rw [if_neg c21] at H
                    have tH : decide (4294967296 ≤ iG) = false := decide_eq_false c21
                    clear c21
                    (first | rw [tH] | (simp only [bY, bZ]; rw [tH]) | skip)
                    have H' := aj.mk H
                    clear H
                    go_wp2
                    repeat (go_quiet (fail); try go_wp2)
                    go_meet
                    case rel => exact ⟨_, (decide ((IntKind.u64.wrap (iG * (Go.bits .and .u64 (dF) 4294967295))) > (IntKind.u64.wrap ((IntKind.u64.wrap (4294967296 * vZ)) + ((iR) / 4294967296))))), (by first | rfl | (simp; done) | (simp only [← oC, ← oz] <;> (first | rfl | simp)) | (simp [*]; done)), H', ⟨by have := xC.out; first | omega | exact Nat.le_refl _⟩, by repeat (first | exact bH.refl _ | apply bH.step)⟩
                 case rest =>
                  clear XD
                  try clear c1
                  try clear c2
                  try clear p2
                  try clear c4
                  try clear tC
                  try clear J9
                  try clear c5
                  try clear y5
                  try clear c6
                  try clear vS
                  try clear OH
                  try clear c9
                  try clear Iw
                  try clear J8
                  try clear c11
                  try clear BI
                  try clear c14
                  try clear nD
                  try clear rH
                  try clear c16
                  try clear DK
                  try clear c18
                  try clear Iz
                  try clear Iy
                  try clear c21
                  try clear tH
                  try clear p2
                  obtain ⟨kq, D7, rfl, HA, Ux, ⟨ag_, rfl⟩⟩ := hcut
                  cases kq with
                  | zero => exact absurd HA.out (by simp [aQ.j1])
                  | succ Yr =>
                    have H := HA.out
                    clear HA
                    simp only [aQ.j1] at H
                    by_cases CZ : D7 = true
                    · subst CZ
                      rw [if_pos rfl] at H
                      by_cases c23 : (IntKind.u64.wrap (vZ + ((dF) / 4294967296))) ≥ 4294967296
                      · rw [if_pos c23] at H
                        have BH : decide (4294967296 ≤ (IntKind.u64.wrap (vZ + ((dF) / 4294967296)))) = true := decide_eq_true c23
                        clear c23
                        have H' := aj.mk H
                        clear H
                        go_wp2
                        repeat (go_quiet (fail); try go_wp2)
                        go_meet
                        case rel => exact ⟨_, (IntKind.u64.wrap (iG - 1)), (by first | rfl | (simp; done) | (simp [*]; done)), H', ⟨by have := xC.out; have := Ux.out; first | omega | exact Nat.le_refl _⟩, by repeat (first | exact bH.refl _ | apply bH.step)⟩
                      · rw [if_neg c23] at H
                        have BH : decide (4294967296 ≤ (IntKind.u64.wrap (vZ + ((dF) / 4294967296)))) = false := decide_eq_false c23
                        clear c23
                        have H' := aj.mk H
                        clear H
                        go_wp2
                        repeat (go_quiet (fail); try go_wp2)
                        go_roundg Yr
                        case measure => have := xC.out; have := Ux.out; omega
                        case rel => exact ⟨(IntKind.u64.wrap (iG - 1)), (IntKind.u64.wrap (vZ + ((dF) / 4294967296))), (by first | rfl | (simp; done) | (simp [*]; done)), (by first | rfl | (simp; done) | (simp only [← oC] <;> (first | rfl | simp)) | (simp [*]; done)), H', ⟨by have := xC.out; have := Ux.out; omega⟩, by repeat (first | exact bH.refl _ | apply bH.step)⟩
                    · replace CZ := Bool.eq_false_iff.mpr CZ
                      subst CZ
                      have H1 : (aQ.j2 Yr dF iE ((dF) / 4294967296) (Go.bits .and .u64 (dF) 4294967295) (Go.bits .or .u64 (jl) (lG)) ((iR) / 4294967296) (Go.bits .and .u64 (iR) 4294967295) iG) = some (r1, r2) := by rw [if_neg (show ¬ (false = true) by decide)] at H; exact H
                      clear H
                      have H := H1
                      clear H1
                      have H' := aj.mk H
                      clear H
                      go_wp2
                      repeat (go_quiet (fail); try go_wp2)
                      go_meet
                      case rel => exact ⟨_, (iG), (by first | rfl | (simp; done) | (simp [*]; done)), H', ⟨by have := xC.out; have := Ux.out; first | omega | exact Nat.le_refl _⟩, by repeat (first | exact bH.refl _ | apply bH.step)⟩
             case rest =>
              clear XE
              try clear c1
              try clear c2
              try clear p2
              try clear c4
              try clear tC
              try clear J9
              try clear c5
              try clear y5
              try clear c6
              try clear vS
              try clear OH
              try clear c9
              try clear Iw
              try clear J8
              try clear c11
              try clear BI
              try clear c14
              try clear nD
              try clear rH
              try clear c16
              try clear DK
              try clear c18
              try clear Iz
              try clear Iy
              try clear c19
              try clear c21
              try clear tH
              try clear CZ
              try clear c23
              try clear BH
              try clear p2
              obtain ⟨kq, iF, rfl, HA, Uy, ⟨aha, rfl⟩⟩ := hcut
              cases kq with
              | zero => exact absurd HA.out (by simp [aQ.j2])
              | succ Yt =>
                have H := HA.out
                clear HA
                simp only [aQ.j2] at H
                by_cases c24 : ((dF) / 4294967296) = 0
                · rw [if_pos c24] at H
                  exact absurd H (by simp)
                · rw [if_neg c24] at H
                  have LQ : (((dF) / 4294967296) == 0) = false := beq_eq_false_iff_ne.mpr c24
                  have LP : (((dF) / 4294967296) != 0) = true := bne_iff_ne.mpr c24
                  have H' := aj.mk H
                  clear H
                  go_wp2
                  repeat (go_quiet (fail); try go_wp2)
                  go_loopg [16, 18] Yt (fun kq v16 v18 w' => ∃ (vY : Int) (kZ : Int), v16 = .int .u64 vY ∧ v18 = .int .u64 kZ ∧ aj (aQ.l1 kq dF iE ((dF) / 4294967296) (Go.bits .and .u64 (dF) 4294967295) (Go.bits .and .u64 (iR) 4294967295) iF vY (IntKind.u64.wrap ((IntKind.u64.wrap ((IntKind.u64.wrap ((Go.bits .or .u64 (jl) (lG)) * 4294967296)) + ((iR) / 4294967296))) - (IntKind.u64.wrap (iF * dF)))) kZ = some (r1, r2)) ∧ aj (kq ≤ Yt) ∧ bH w w')
                  case atStart => exact ⟨(IntKind.u64.wrap ((IntKind.u64.wrap ((IntKind.u64.wrap ((IntKind.u64.wrap ((Go.bits .or .u64 (jl) (lG)) * 4294967296)) + ((iR) / 4294967296))) - (IntKind.u64.wrap (iF * dF)))) - (IntKind.u64.wrap ((IntKind.u64.wrap (Int.tdiv (IntKind.u64.wrap ((IntKind.u64.wrap ((IntKind.u64.wrap ((Go.bits .or .u64 (jl) (lG)) * 4294967296)) + ((iR) / 4294967296))) - (IntKind.u64.wrap (iF * dF)))) ((dF) / 4294967296))) * ((dF) / 4294967296))))), (IntKind.u64.wrap (Int.tdiv (IntKind.u64.wrap ((IntKind.u64.wrap ((IntKind.u64.wrap ((Go.bits .or .u64 (jl) (lG)) * 4294967296)) + ((iR) / 4294967296))) - (IntKind.u64.wrap (iF * dF)))) ((dF) / 4294967296))), (by first | rfl | (simp; done) | (simp only [← oC, ← sO, ← sN, ← oz] <;> (first | rfl | simp)) | (simp [*]; done)), (by first | rfl | (simp; done) | (simp only [← oC, ← sO, ← sN, ← oz] <;> (first | rfl | simp)) | (simp [*]; done)), H', ⟨Nat.le_refl _⟩, by repeat (first | exact bH.refl _ | apply bH.step)⟩
                  case round =>
                   clear H'
                   try clear c1
                   try clear c2
                   try clear p2
                   try clear c4
                   try clear tC
                   try clear J9
                   try clear c5
                   try clear y5
                   try clear c6
                   try clear vS
                   try clear OH
                   try clear c9
                   try clear Iw
                   try clear J8
                   try clear c11
                   try clear BI
                   try clear c14
                   try clear nD
                   try clear rH
                   try clear c16
                   try clear DK
                   try clear c18
                   try clear Iz
                   try clear Iy
                   try clear c19
                   try clear c21
                   try clear tH
                   try clear CZ
                   try clear c23
                   try clear BH
                   try clear c24
                   try clear LQ
                   try clear LP
                   try clear p2
                   obtain ⟨vY, kZ, rfl, rfl, HA, KI, ⟨m2, rfl⟩⟩ := hrel
                   cases gk with
                   | zero => exact absurd HA.out (by simp [aQ.l1])
                   | succ k2 =>
                     have H := HA.out
                     clear HA
                     simp only [aQ.l1] at H
                     have XC := aj.mk H
                     clear H
                     go_upto_region 24 with (fail)
                     repeat (go_quiet (fail); go_upto_region 24 with (fail))
                     go_cut [113] (fun acG wc => ∃ (kq : Nat) (zh : Bool), acG = .bool zh ∧ aj (aQ.j4 kq dF iE ((dF) / 4294967296) (Go.bits .and .u64 (dF) 4294967295) (Go.bits .and .u64 (iR) 4294967295) iF vY (IntKind.u64.wrap ((IntKind.u64.wrap ((IntKind.u64.wrap ((Go.bits .or .u64 (jl) (lG)) * 4294967296)) + ((iR) / 4294967296))) - (IntKind.u64.wrap (iF * dF)))) kZ zh = some (r1, r2)) ∧ aj (kq ≤ k2) ∧ bH w wc)
                     case first =>
                      have H := XC.out
                      clear XC
                      by_cases DJ : kZ ≥ 4294967296
                      · rw [if_pos DJ] at H
                        have yI : decide (4294967296 ≤ kZ) = true := decide_eq_true DJ
                        clear DJ
                        (first | rw [yI] | (simp only [bY, bZ]; rw [yI]) | skip)
                        have H' := aj.mk H
                        clear H
                        go_wp2
                        repeat (go_quiet (fail); try go_wp2)
                        go_meet
                        case rel => exact ⟨_, (true), (by first | rfl | (simp; done) | (simp [*]; done)), H', ⟨by have := Uy.out; have := KI.out; first | omega | exact Nat.le_refl _⟩, by repeat (first | exact bH.refl _ | apply bH.step)⟩
                      · rw [if_neg DJ] at H
                        have yI : decide (4294967296 ≤ kZ) = false := decide_eq_false DJ
                        clear DJ
                        (first | rw [yI] | (simp only [bY, bZ]; rw [yI]) | skip)
                        have H' := aj.mk H
                        clear H
                        go_wp2
                        repeat (go_quiet (fail); try go_wp2)
                        go_meet
                        case rel => exact ⟨_, (decide ((IntKind.u64.wrap (kZ * (Go.bits .and .u64 (dF) 4294967295))) > (IntKind.u64.wrap ((IntKind.u64.wrap (4294967296 * vY)) + (Go.bits .and .u64 (iR) 4294967295))))), (by first | rfl | (simp; done) | (simp only [← oC, ← oz] <;> (first | rfl | simp)) | (simp [*]; done)), H', ⟨by have := Uy.out; have := KI.out; first | omega | exact Nat.le_refl _⟩, by repeat (first | exact bH.refl _ | apply bH.step)⟩
                     case rest =>
                      clear XC
                      try clear c1
                      try clear c2
                      try clear p2
                      try clear c4
                      try clear tC
                      try clear J9
                      try clear c5
                      try clear y5
                      try clear c6
                      try clear vS
                      try clear OH
                      try clear c9
                      try clear Iw
                      try clear J8
                      try clear c11
                      try clear BI
                      try clear c14
                      try clear nD
                      try clear rH
                      try clear c16
                      try clear DK
                      try clear c18
                      try clear Iz
                      try clear Iy
                      try clear c19
                      try clear c21
                      try clear tH
                      try clear CZ
                      try clear c23
                      try clear BH
                      try clear c24
                      try clear LQ
                      try clear LP
                      try clear DJ
                      try clear yI
                      try clear p2
                      obtain ⟨kq, zh, rfl, HA, aag, ⟨ag9, rfl⟩⟩ := hcut
                      cases kq with
                      | zero => exact absurd HA.out (by simp [aQ.j4])
                      | succ acS =>
                        have H := HA.out
                        clear HA
                        simp only [aQ.j4] at H
                        by_cases J_ : zh = true
                        · subst J_
                          rw [if_pos rfl] at H
                          by_cases c28 : (IntKind.u64.wrap (vY + ((dF) / 4294967296))) ≥ 4294967296
                          · rw [if_pos c28] at H
                            have Va : decide (4294967296 ≤ (IntKind.u64.wrap (vY + ((dF) / 4294967296)))) = true := decide_eq_true c28
                            clear c28
                            by_cases c29 : 0 ≤ iE
                            · rw [if_pos c29] at H
                              have Y1 := eq_true c29
                              have afM : decide (0 ≤ iE) = true := decide_eq_true c29
                              clear c29
                              obtain ⟨oh, uX⟩ : ∃ j_ : Int, (shr .u64 (IntKind.u64.wrap ((IntKind.u64.wrap ((IntKind.u64.wrap ((IntKind.u64.wrap ((IntKind.u64.wrap ((IntKind.u64.wrap ((Go.bits .or .u64 (jl) (lG)) * 4294967296)) + ((iR) / 4294967296))) - (IntKind.u64.wrap (iF * dF)))) * 4294967296)) + (Go.bits .and .u64 (iR) 4294967295))) - (IntKind.u64.wrap ((IntKind.u64.wrap (kZ - 1)) * dF)))) iE) = j_ := ⟨_, rfl⟩
                              replace H : (some (IntKind.u64.wrap ((IntKind.u64.wrap (iF * 4294967296)) + (IntKind.u64.wrap (kZ - 1))), oh)) = some (r1, r2) := by first | (rw [uX] at H; exact H) | (simp only [uX] at H ⊢; exact H)
                              have adl : ((IntKind.u64.wrap ((IntKind.u64.wrap ((IntKind.u64.wrap ((IntKind.u64.wrap ((IntKind.u64.wrap ((IntKind.u64.wrap ((Go.bits .or .u64 (jl) (lG)) * 4294967296)) + ((iR) / 4294967296))) - (IntKind.u64.wrap (iF * dF)))) * 4294967296)) + (Go.bits .and .u64 (iR) 4294967295))) - (IntKind.u64.wrap ((IntKind.u64.wrap (kZ - 1)) * dF)))) / 2 ^ min iE.toNat 64) = oh := uX
                              have adi : iE ≤ 64 → ((IntKind.u64.wrap ((IntKind.u64.wrap ((IntKind.u64.wrap ((IntKind.u64.wrap ((IntKind.u64.wrap ((IntKind.u64.wrap ((Go.bits .or .u64 (jl) (lG)) * 4294967296)) + ((iR) / 4294967296))) - (IntKind.u64.wrap (iF * dF)))) * 4294967296)) + (Go.bits .and .u64 (iR) 4294967295))) - (IntKind.u64.wrap ((IntKind.u64.wrap (kZ - 1)) * dF)))) / 2 ^ iE.toNat) = oh := xJ uX
                              simp only [Option.some.injEq, Prod.mk.injEq] at H
                              obtain ⟨rfl, rfl⟩ := H
                              go_wp2
                              repeat (go_quiet (fail); try go_wp2)
                              go_ret2
                              exact ⟨by first | rfl | (simp; done) | (simp only [← P8, ← oC, ← sO, ← H9, ← sN, ← oz, ← uX] <;> (first | rfl | simp)) | (simp [*]; done), by repeat (first | exact bH.refl _ | apply bH.step)⟩
                            · rw [if_neg c29] at H
                              exact absurd H (by simp)
                          · rw [if_neg c28] at H
                            have Va : decide (4294967296 ≤ (IntKind.u64.wrap (vY + ((dF) / 4294967296)))) = false := decide_eq_false c28
                            clear c28
                            have H' := aj.mk H
                            clear H
                            go_wp2
                            repeat (go_quiet (fail); try go_wp2)
                            go_roundg acS
                            case measure => have := Uy.out; have := KI.out; have := aag.out; omega
                            case rel => exact ⟨(IntKind.u64.wrap (vY + ((dF) / 4294967296))), (IntKind.u64.wrap (kZ - 1)), (by first | rfl | (simp; done) | (simp only [← oC] <;> (first | rfl | simp)) | (simp [*]; done)), (by first | rfl | (simp; done) | (simp [*]; done)), H', ⟨by have := Uy.out; have := KI.out; have := aag.out; omega⟩, by repeat (first | exact bH.refl _ | apply bH.step)⟩
                        · replace J_ := Bool.eq_false_iff.mpr J_
                          subst J_
                          have H1 : (if 0 ≤ iE then (some (IntKind.u64.wrap ((IntKind.u64.wrap (iF * 4294967296)) + kZ), shr .u64 (IntKind.u64.wrap ((IntKind.u64.wrap ((IntKind.u64.wrap ((IntKind.u64.wrap ((IntKind.u64.wrap ((IntKind.u64.wrap ((Go.bits .or .u64 (jl) (lG)) * 4294967296)) + ((iR) / 4294967296))) - (IntKind.u64.wrap (iF * dF)))) * 4294967296)) + (Go.bits .and .u64 (iR) 4294967295))) - (IntKind.u64.wrap (kZ * dF)))) iE)) else (none)) = some (r1, r2) := by rw [if_neg (show ¬ (false = true) by decide)] at H; exact H
                          clear H
                          have H := H1
                          clear H1
                          by_cases c31 : 0 ≤ iE
                          · rw [if_pos c31] at H
                            have Y0 := eq_true c31
                            have afL : decide (0 ≤ iE) = true := decide_eq_true c31
                            clear c31
                            obtain ⟨VQ, Hy⟩ : ∃ j_ : Int, (shr .u64 (IntKind.u64.wrap ((IntKind.u64.wrap ((IntKind.u64.wrap ((IntKind.u64.wrap ((IntKind.u64.wrap ((IntKind.u64.wrap ((Go.bits .or .u64 (jl) (lG)) * 4294967296)) + ((iR) / 4294967296))) - (IntKind.u64.wrap (iF * dF)))) * 4294967296)) + (Go.bits .and .u64 (iR) 4294967295))) - (IntKind.u64.wrap (kZ * dF)))) iE) = j_ := ⟨_, rfl⟩
                            replace H : (some (IntKind.u64.wrap ((IntKind.u64.wrap (iF * 4294967296)) + kZ), VQ)) = some (r1, r2) := by first | (rw [Hy] at H; exact H) | (simp only [Hy] at H ⊢; exact H)
                            have adh : ((IntKind.u64.wrap ((IntKind.u64.wrap ((IntKind.u64.wrap ((IntKind.u64.wrap ((IntKind.u64.wrap ((IntKind.u64.wrap ((Go.bits .or .u64 (jl) (lG)) * 4294967296)) + ((iR) / 4294967296))) - (IntKind.u64.wrap (iF * dF)))) * 4294967296)) + (Go.bits .and .u64 (iR) 4294967295))) - (IntKind.u64.wrap (kZ * dF)))) / 2 ^ min iE.toNat 64) = VQ := Hy
                            have adg : iE ≤ 64 → ((IntKind.u64.wrap ((IntKind.u64.wrap ((IntKind.u64.wrap ((IntKind.u64.wrap ((IntKind.u64.wrap ((IntKind.u64.wrap ((Go.bits .or .u64 (jl) (lG)) * 4294967296)) + ((iR) / 4294967296))) - (IntKind.u64.wrap (iF * dF)))) * 4294967296)) + (Go.bits .and .u64 (iR) 4294967295))) - (IntKind.u64.wrap (kZ * dF)))) / 2 ^ iE.toNat) = VQ := xJ Hy
                            simp only [Option.some.injEq, Prod.mk.injEq] at H
                            obtain ⟨rfl, rfl⟩ := H
                            go_wp2
                            repeat (go_quiet (fail); try go_wp2)
                            go_ret2
                            exact ⟨by first | rfl | (simp; done) | (simp only [← P8, ← oC, ← sO, ← H9, ← sN, ← oz, ← Hy] <;> (first | rfl | simp)) | (simp [*]; done), by repeat (first | exact bH.refl _ | apply bH.step)⟩
                          · rw [if_neg c31] at H
                            exact absurd H (by simp)
         · rw [if_neg c14] at H
           exact absurd H (by simp)
       · rw [if_neg c9] at H
         exact absurd H (by simp)
def lu.f (k : Nat) (a0 : Int) (a1 : Int) : Option (Int × Bool) := (bK.f a0 a1).bind fun fA => (if fA.2.1 = 0 then (if fA.1 > 0 then (some (70368744177663, true)) else (if fA.1 < 0 then (some ((-70368744177664), true)) else (some (0, true)))) else ((bf.f fA.1).bind fun t124 => ((bf.f fA.2.1).bind fun t125 => (if (t124 / 1099511627776) ≥ t125 then ((aS.f 1 0 ((decide (fA.1 < 0)) != (decide (fA.2.1 < 0)))).bind fun xq => (some (xq.1, true))) else ((aQ.f k (t124 / 1099511627776) (IntKind.u64.wrap (t124 * 16777216)) t125).bind fun dV => (if dV.2 > (IntKind.u64.wrap (t125 - dV.2)) then ((aS.f 0 (IntKind.u64.wrap (dV.1 + 1)) ((decide (fA.1 < 0)) != (decide (fA.2.1 < 0)))).bind fun jK => (if fA.2.2 = true then (some (jK.1, true)) else (some (jK.1, jK.2)))) else (if dV.2 = (IntKind.u64.wrap (t125 - dV.2)) then (if (Go.bits .and .u64 dV.1 1) = 1 then ((aS.f 0 (IntKind.u64.wrap (dV.1 + 1)) ((decide (fA.1 < 0)) != (decide (fA.2.1 < 0)))).bind fun jJ => (if fA.2.2 = true then (some (jJ.1, true)) else (some (jJ.1, jJ.2)))) else ((aS.f 0 dV.1 ((decide (fA.1 < 0)) != (decide (fA.2.1 < 0)))).bind fun jI => (if fA.2.2 = true then (some (jI.1, true)) else (some (jI.1, jI.2))))) else ((aS.f 0 dV.1 ((decide (fA.1 < 0)) != (decide (fA.2.1 < 0)))).bind fun jH => (if fA.2.2 = true then (some (jH.1, true)) else (some (jH.1, jH.2)))))))))))
theorem lu.calls (k : Nat) (a0 : Int) (a1 : Int) (r1 : Int) (r2 : Bool) (w : World) (h : lu.f k a0 a1 = some (r1, r2)) :
 Calls Try.prog 93 #[.int .i64 a0, .int .i64 a1] w fun e w' => e = .returned (.tuple #[.int .i64 r1, .bool r2]) ∧ Below w.heap.size w w' := by
 have HB := aj.mk (Below.refl w.heap.size w)
 have H : ((bK.f a0 a1).bind fun fA => (if fA.2.1 = 0 then (if fA.1 > 0 then (some (70368744177663, true)) else (if fA.1 < 0 then (some ((-70368744177664), true)) else (some (0, true)))) else ((bf.f fA.1).bind fun t124 => ((bf.f fA.2.1).bind fun t125 => (if (t124 / 1099511627776) ≥ t125 then ((aS.f 1 0 ((decide (fA.1 < 0)) != (decide (fA.2.1 < 0)))).bind fun xq => (some (xq.1, true))) else ((aQ.f k (t124 / 1099511627776) (IntKind.u64.wrap (t124 * 16777216)) t125).bind fun dV => (if dV.2 > (IntKind.u64.wrap (t125 - dV.2)) then ((aS.f 0 (IntKind.u64.wrap (dV.1 + 1)) ((decide (fA.1 < 0)) != (decide (fA.2.1 < 0)))).bind fun jK => (if fA.2.2 = true then (some (jK.1, true)) else (some (jK.1, jK.2)))) else (if dV.2 = (IntKind.u64.wrap (t125 - dV.2)) then (if (Go.bits .and .u64 dV.1 1) = 1 then ((aS.f 0 (IntKind.u64.wrap (dV.1 + 1)) ((decide (fA.1 < 0)) != (decide (fA.2.1 < 0)))).bind fun jJ => (if fA.2.2 = true then (some (jJ.1, true)) else (some (jJ.1, jJ.2)))) else ((aS.f 0 dV.1 ((decide (fA.1 < 0)) != (decide (fA.2.1 < 0)))).bind fun jI => (if fA.2.2 = true then (some (jI.1, true)) else (some (jI.1, jI.2))))) else ((aS.f 0 dV.1 ((decide (fA.1 < 0)) != (decide (fA.2.1 < 0)))).bind fun jH => (if fA.2.2 = true then (some (jH.1, true)) else (some (jH.1, jH.2)))))))))))) = some (r1, r2) := h
 clear h
 replace H := Option.bind_eq_some_iff.mp H
 obtain ⟨⟨t121, t122, t123⟩, Cc, H⟩ := H
 replace H : (if t122 = 0 then (if t121 > 0 then (some (70368744177663, true)) else (if t121 < 0 then (some ((-70368744177664), true)) else (some (0, true)))) else ((bf.f t121).bind fun t124 => ((bf.f t122).bind fun t125 => (if (t124 / 1099511627776) ≥ t125 then ((aS.f 1 0 ((decide (t121 < 0)) != (decide (t122 < 0)))).bind fun xq => (some (xq.1, true))) else ((aQ.f k (t124 / 1099511627776) (IntKind.u64.wrap (t124 * 16777216)) t125).bind fun dV => (if dV.2 > (IntKind.u64.wrap (t125 - dV.2)) then ((aS.f 0 (IntKind.u64.wrap (dV.1 + 1)) ((decide (t121 < 0)) != (decide (t122 < 0)))).bind fun jK => (if t123 = true then (some (jK.1, true)) else (some (jK.1, jK.2)))) else (if dV.2 = (IntKind.u64.wrap (t125 - dV.2)) then (if (Go.bits .and .u64 dV.1 1) = 1 then ((aS.f 0 (IntKind.u64.wrap (dV.1 + 1)) ((decide (t121 < 0)) != (decide (t122 < 0)))).bind fun jJ => (if t123 = true then (some (jJ.1, true)) else (some (jJ.1, jJ.2)))) else ((aS.f 0 dV.1 ((decide (t121 < 0)) != (decide (t122 < 0)))).bind fun jI => (if t123 = true then (some (jI.1, true)) else (some (jI.1, jI.2))))) else ((aS.f 0 dV.1 ((decide (t121 < 0)) != (decide (t122 < 0)))).bind fun jH => (if t123 = true then (some (jH.1, true)) else (some (jH.1, jH.2))))))))))) = some (r1, r2) := H
 have A3 := aj.mk Cc
 clear Cc
 by_cases c4 : t122 = 0
 · rw [if_pos c4] at H
   have tC : (t122 == 0) = true := beq_iff_eq.mpr c4
   have J9 : (t122 != 0) = false := bne_eq_false_iff_eq.mpr c4
   clear c4
   by_cases c5 : t121 > 0
   · rw [if_pos c5] at H
     have y5 : decide (0 < t121) = true := decide_eq_true c5
     clear c5
     simp only [Option.some.injEq, Prod.mk.injEq] at H
     obtain ⟨rfl, rfl⟩ := H
     go_enter Try.func93, Try.ntmps93
     go_wp2_with (first | ((with_reducible refine aF (f := 95) rfl ?_); refine a_ (some 21) rfl rfl Try.func95 (by kernel_rfl) rfl #[.int .i64 a0, .int .i64 a1] rfl (by (try simp only [List.map_toArray, List.map_cons, List.map_nil]); first | done | rfl | (simp only [List.length_drop, List.length_take]; rfl)) ?_; (with_reducible refine (bK.calls a0 a1 t121 t122 t123 _ A3.out).mono ?_); rintro e w6 ⟨rfl, hb⟩; refine ⟨_, rfl, ?_⟩; have bF := aj.mk (aP (by repeat (first | (with_reducible first | exact HB.out | apply ak | apply ah | apply au) | exact HB.out)) hb); clear HB; have HB := bF; clear bF; (try clear hb); (try clear hb2); (try clear hk); (try clear hi)))
     go_ret2
     exact ⟨by first | rfl | (simp [aN, aK] <;> rfl) | (simp [*, aN, aK] <;> rfl), by repeat (first | (with_reducible first | exact HB.out | apply ak | apply ah | apply au) | exact HB.out)⟩
   · rw [if_neg c5] at H
     have y5 : decide (0 < t121) = false := decide_eq_false c5
     clear c5
     by_cases c7 : t121 < 0
     · rw [if_pos c7] at H
       have yc : decide (t121 < 0) = true := decide_eq_true c7
       clear c7
       simp only [Option.some.injEq, Prod.mk.injEq] at H
       obtain ⟨rfl, rfl⟩ := H
       go_enter Try.func93, Try.ntmps93
       go_wp2_with (first | ((with_reducible refine aF (f := 95) rfl ?_); refine a_ (some 21) rfl rfl Try.func95 (by kernel_rfl) rfl #[.int .i64 a0, .int .i64 a1] rfl (by (try simp only [List.map_toArray, List.map_cons, List.map_nil]); first | done | rfl | (simp only [List.length_drop, List.length_take]; rfl)) ?_; (with_reducible refine (bK.calls a0 a1 t121 t122 t123 _ A3.out).mono ?_); rintro e w8 ⟨rfl, hb⟩; refine ⟨_, rfl, ?_⟩; have bF := aj.mk (aP (by repeat (first | (with_reducible first | exact HB.out | apply ak | apply ah | apply au) | exact HB.out)) hb); clear HB; have HB := bF; clear bF; (try clear hb); (try clear hb2); (try clear hk); (try clear hi)))
       go_ret2
       exact ⟨by first | rfl | (simp [aN, aK] <;> rfl) | (simp [*, aN, aK] <;> rfl), by repeat (first | (with_reducible first | exact HB.out | apply ak | apply ah | apply au) | exact HB.out)⟩
     · rw [if_neg c7] at H
       have yc : decide (t121 < 0) = false := decide_eq_false c7
       clear c7
       simp only [Option.some.injEq, Prod.mk.injEq] at H
       obtain ⟨rfl, rfl⟩ := H
       go_enter Try.func93, Try.ntmps93
       go_wp2_with (first | ((with_reducible refine aF (f := 95) rfl ?_); refine a_ (some 21) rfl rfl Try.func95 (by kernel_rfl) rfl #[.int .i64 a0, .int .i64 a1] rfl (by (try simp only [List.map_toArray, List.map_cons, List.map_nil]); first | done | rfl | (simp only [List.length_drop, List.length_take]; rfl)) ?_; (with_reducible refine (bK.calls a0 a1 t121 t122 t123 _ A3.out).mono ?_); rintro e w9 ⟨rfl, hb⟩; refine ⟨_, rfl, ?_⟩; have bF := aj.mk (aP (by repeat (first | (with_reducible first | exact HB.out | apply ak | apply ah | apply au) | exact HB.out)) hb); clear HB; have HB := bF; clear bF; (try clear hb); (try clear hb2); (try clear hk); (try clear hi)))
       go_ret2
       exact ⟨by first | rfl | (simp [aN, aK] <;> rfl) | (simp [*, aN, aK] <;> rfl), by repeat (first | (with_reducible first | exact HB.out | apply ak | apply ah | apply au) | exact HB.out)⟩
 · rw [if_neg c4] at H
   have tC : (t122 == 0) = false := beq_eq_false_iff_ne.mpr c4
   have J9 : (t122 != 0) = true := bne_iff_ne.mpr c4
   replace H := Option.bind_eq_some_iff.mp H
   obtain ⟨t124, aaG, H⟩ := H
   replace H : ((bf.f t122).bind fun t125 => (if (t124 / 1099511627776) ≥ t125 then ((aS.f 1 0 ((decide (t121 < 0)) != (decide (t122 < 0)))).bind fun xq => (some (xq.1, true))) else ((aQ.f k (t124 / 1099511627776) (IntKind.u64.wrap (t124 * 16777216)) t125).bind fun dV => (if dV.2 > (IntKind.u64.wrap (t125 - dV.2)) then ((aS.f 0 (IntKind.u64.wrap (dV.1 + 1)) ((decide (t121 < 0)) != (decide (t122 < 0)))).bind fun jK => (if t123 = true then (some (jK.1, true)) else (some (jK.1, jK.2)))) else (if dV.2 = (IntKind.u64.wrap (t125 - dV.2)) then (if (Go.bits .and .u64 dV.1 1) = 1 then ((aS.f 0 (IntKind.u64.wrap (dV.1 + 1)) ((decide (t121 < 0)) != (decide (t122 < 0)))).bind fun jJ => (if t123 = true then (some (jJ.1, true)) else (some (jJ.1, jJ.2)))) else ((aS.f 0 dV.1 ((decide (t121 < 0)) != (decide (t122 < 0)))).bind fun jI => (if t123 = true then (some (jI.1, true)) else (some (jI.1, jI.2))))) else ((aS.f 0 dV.1 ((decide (t121 < 0)) != (decide (t122 < 0)))).bind fun jH => (if t123 = true then (some (jH.1, true)) else (some (jH.1, jH.2))))))))) = some (r1, r2) := H
   have UC := aj.mk aaG
   clear aaG
   replace H := Option.bind_eq_some_iff.mp H
   obtain ⟨t125, aaF, H⟩ := H
   replace H : (if (t124 / 1099511627776) ≥ t125 then ((aS.f 1 0 ((decide (t121 < 0)) != (decide (t122 < 0)))).bind fun xq => (some (xq.1, true))) else ((aQ.f k (t124 / 1099511627776) (IntKind.u64.wrap (t124 * 16777216)) t125).bind fun dV => (if dV.2 > (IntKind.u64.wrap (t125 - dV.2)) then ((aS.f 0 (IntKind.u64.wrap (dV.1 + 1)) ((decide (t121 < 0)) != (decide (t122 < 0)))).bind fun jK => (if t123 = true then (some (jK.1, true)) else (some (jK.1, jK.2)))) else (if dV.2 = (IntKind.u64.wrap (t125 - dV.2)) then (if (Go.bits .and .u64 dV.1 1) = 1 then ((aS.f 0 (IntKind.u64.wrap (dV.1 + 1)) ((decide (t121 < 0)) != (decide (t122 < 0)))).bind fun jJ => (if t123 = true then (some (jJ.1, true)) else (some (jJ.1, jJ.2)))) else ((aS.f 0 dV.1 ((decide (t121 < 0)) != (decide (t122 < 0)))).bind fun jI => (if t123 = true then (some (jI.1, true)) else (some (jI.1, jI.2))))) else ((aS.f 0 dV.1 ((decide (t121 < 0)) != (decide (t122 < 0)))).bind fun jH => (if t123 = true then (some (jH.1, true)) else (some (jH.1, jH.2)))))))) = some (r1, r2) := H
   have UA := aj.mk aaF
   clear aaF
   by_cases c12 : (t124 / 1099511627776) ≥ t125
   · rw [if_pos c12] at H
     have Y7 : decide (t125 ≤ (t124 / 1099511627776)) = true := decide_eq_true c12
     clear c12
     replace H := Option.bind_eq_some_iff.mp H
     obtain ⟨⟨t126, t127⟩, aaE, H⟩ := H
     replace H : (some (t126, true)) = some (r1, r2) := H
     have A13 := aj.mk aaE
     clear aaE
     simp only [Option.some.injEq, Prod.mk.injEq] at H
     obtain ⟨rfl, rfl⟩ := H
     go_enter Try.func93, Try.ntmps93
     go_wp2_with (first | ((with_reducible refine aF (f := 95) rfl ?_); refine a_ (some 21) rfl rfl Try.func95 (by kernel_rfl) rfl #[.int .i64 a0, .int .i64 a1] rfl (by (try simp only [List.map_toArray, List.map_cons, List.map_nil]); first | done | rfl | (simp only [List.length_drop, List.length_take]; rfl)) ?_; (with_reducible refine (bK.calls a0 a1 t121 t122 t123 _ A3.out).mono ?_); rintro e X_ ⟨rfl, hb⟩; refine ⟨_, rfl, ?_⟩; have bF := aj.mk (aP (by repeat (first | (with_reducible first | exact HB.out | apply ak | apply ah | apply au) | exact HB.out)) hb); clear HB; have HB := bF; clear bF; (try clear hb); (try clear hb2); (try clear hk); (try clear hi)) | ((with_reducible refine aF (f := 97) rfl ?_); refine a_ (some 39) rfl rfl Try.func97 (by kernel_rfl) rfl #[.int .i64 t121] rfl (by (try simp only [List.map_toArray, List.map_cons, List.map_nil]); first | done | rfl | (simp only [List.length_drop, List.length_take]; rfl)) ?_; (with_reducible refine (bf.calls t121 t124 _ UC.out).mono ?_); rintro e w' ⟨rfl, ⟨nd, rfl⟩⟩; refine ⟨_, rfl, ?_⟩) | ((with_reducible refine aF (f := 97) rfl ?_); refine a_ (some 41) rfl rfl Try.func97 (by kernel_rfl) rfl #[.int .i64 t122] rfl (by (try simp only [List.map_toArray, List.map_cons, List.map_nil]); first | done | rfl | (simp only [List.length_drop, List.length_take]; rfl)) ?_; (with_reducible refine (bf.calls t122 t125 _ UA.out).mono ?_); rintro e w' ⟨rfl, ⟨nd, rfl⟩⟩; refine ⟨_, rfl, ?_⟩) | ((with_reducible refine aF (f := 98) rfl ?_); refine a_ (some 51) rfl rfl Try.func98 (by kernel_rfl) rfl #[.int .u64 1, .int .u64 0, .bool ((decide (t121 < 0)) != (decide (t122 < 0)))] rfl (by (try simp only [List.map_toArray, List.map_cons, List.map_nil]); first | done | rfl | (simp only [List.length_drop, List.length_take]; rfl)) ?_; (with_reducible refine (aS.calls 1 0 ((decide (t121 < 0)) != (decide (t122 < 0))) t126 t127 _ A13.out).mono ?_); rintro e w15 ⟨rfl, hb⟩; refine ⟨_, rfl, ?_⟩; have bF := aj.mk (aP (by repeat (first | (with_reducible first | exact HB.out | apply ak | apply ah | apply au) | exact HB.out)) hb); clear HB; have HB := bF; clear bF; (try clear hb); (try clear hb2); (try clear hk); (try clear hi)))
     go_ret2
     exact ⟨by first | rfl | (simp [aN, aK] <;> rfl) | (simp [*, aN, aK] <;> rfl), by repeat (first | (with_reducible first | exact HB.out | apply ak | apply ah | apply au) | exact HB.out)⟩
   · rw [if_neg c12] at H
     have Y7 : decide (t125 ≤ (t124 / 1099511627776)) = false := decide_eq_false c12
     clear c12
     replace H := Option.bind_eq_some_iff.mp H
     obtain ⟨⟨t128, t129⟩, IZ, H⟩ := H
     replace H : (if t129 > (IntKind.u64.wrap (t125 - t129)) then ((aS.f 0 (IntKind.u64.wrap (t128 + 1)) ((decide (t121 < 0)) != (decide (t122 < 0)))).bind fun jK => (if t123 = true then (some (jK.1, true)) else (some (jK.1, jK.2)))) else (if t129 = (IntKind.u64.wrap (t125 - t129)) then (if (Go.bits .and .u64 t128 1) = 1 then ((aS.f 0 (IntKind.u64.wrap (t128 + 1)) ((decide (t121 < 0)) != (decide (t122 < 0)))).bind fun jJ => (if t123 = true then (some (jJ.1, true)) else (some (jJ.1, jJ.2)))) else ((aS.f 0 t128 ((decide (t121 < 0)) != (decide (t122 < 0)))).bind fun jI => (if t123 = true then (some (jI.1, true)) else (some (jI.1, jI.2))))) else ((aS.f 0 t128 ((decide (t121 < 0)) != (decide (t122 < 0)))).bind fun jH => (if t123 = true then (some (jH.1, true)) else (some (jH.1, jH.2)))))) = some (r1, r2) := H
     have MQ := aj.mk IZ
     clear IZ
     by_cases c17 : t129 > (IntKind.u64.wrap (t125 - t129))
     · rw [if_pos c17] at H
       have Y5 : decide ((IntKind.u64.wrap (t125 - t129)) < t129) = true := decide_eq_true c17
       clear c17
       replace H := Option.bind_eq_some_iff.mp H
       obtain ⟨⟨t130, t131⟩, aaD, H⟩ := H
       replace H : (if t123 = true then (some (t130, true)) else (some (t130, t131))) = some (r1, r2) := H
       have yw := aj.mk aaD
       clear aaD
       by_cases c19 : t123 = true
       · subst c19
         rw [if_pos rfl] at H
         simp only [Option.some.injEq, Prod.mk.injEq] at H
         obtain ⟨rfl, rfl⟩ := H
         go_enter Try.func93, Try.ntmps93
         go_wp2_with (first | ((with_reducible refine aF (f := 95) rfl ?_); refine a_ (some 21) rfl rfl Try.func95 (by kernel_rfl) rfl #[.int .i64 a0, .int .i64 a1] rfl (by (try simp only [List.map_toArray, List.map_cons, List.map_nil]); first | done | rfl | (simp only [List.length_drop, List.length_take]; rfl)) ?_; (with_reducible refine (bK.calls a0 a1 t121 t122 true _ A3.out).mono ?_); rintro e w20 ⟨rfl, hb⟩; refine ⟨_, rfl, ?_⟩; have bF := aj.mk (aP (by repeat (first | (with_reducible first | exact HB.out | apply ak | apply ah | apply au) | exact HB.out)) hb); clear HB; have HB := bF; clear bF; (try clear hb); (try clear hb2); (try clear hk); (try clear hi)) | ((with_reducible refine aF (f := 97) rfl ?_); refine a_ (some 39) rfl rfl Try.func97 (by kernel_rfl) rfl #[.int .i64 t121] rfl (by (try simp only [List.map_toArray, List.map_cons, List.map_nil]); first | done | rfl | (simp only [List.length_drop, List.length_take]; rfl)) ?_; (with_reducible refine (bf.calls t121 t124 _ UC.out).mono ?_); rintro e w' ⟨rfl, ⟨nd, rfl⟩⟩; refine ⟨_, rfl, ?_⟩) | ((with_reducible refine aF (f := 97) rfl ?_); refine a_ (some 41) rfl rfl Try.func97 (by kernel_rfl) rfl #[.int .i64 t122] rfl (by (try simp only [List.map_toArray, List.map_cons, List.map_nil]); first | done | rfl | (simp only [List.length_drop, List.length_take]; rfl)) ?_; (with_reducible refine (bf.calls t122 t125 _ UA.out).mono ?_); rintro e w' ⟨rfl, ⟨nd, rfl⟩⟩; refine ⟨_, rfl, ?_⟩) | ((with_reducible refine aF (f := 112) rfl ?_); refine a_ (some 59) rfl rfl Try.func112 (by kernel_rfl) rfl #[.int .u64 (t124 / 1099511627776), .int .u64 (IntKind.u64.wrap (t124 * 16777216)), .int .u64 t125] rfl (by (try simp only [List.map_toArray, List.map_cons, List.map_nil]); first | done | rfl | (simp only [List.length_drop, List.length_take]; rfl)) ?_; (with_reducible refine (aQ.calls k (t124 / 1099511627776) (IntKind.u64.wrap (t124 * 16777216)) t125 t128 t129 _ MQ.out).mono ?_); rintro e w' ⟨rfl, ⟨nd, rfl⟩⟩; refine ⟨_, rfl, ?_⟩) | ((with_reducible refine aF (f := 98) rfl ?_); refine a_ (some 84) rfl rfl Try.func98 (by kernel_rfl) rfl #[.int .u64 0, .int .u64 (IntKind.u64.wrap (t128 + 1)), .bool ((decide (t121 < 0)) != (decide (t122 < 0)))] rfl (by (try simp only [List.map_toArray, List.map_cons, List.map_nil]); first | done | rfl | (simp only [List.length_drop, List.length_take]; rfl)) ?_; (with_reducible refine (aS.calls 0 (IntKind.u64.wrap (t128 + 1)) ((decide (t121 < 0)) != (decide (t122 < 0))) t130 t131 _ yw.out).mono ?_); rintro e UE ⟨rfl, hb⟩; refine ⟨_, rfl, ?_⟩; have bF := aj.mk (aP (by repeat (first | (with_reducible first | exact HB.out | apply ak | apply ah | apply au) | exact HB.out)) hb); clear HB; have HB := bF; clear bF; (try clear hb); (try clear hb2); (try clear hk); (try clear hi)))
         go_ret2
         exact ⟨by first | rfl | (simp [aN, aK] <;> rfl) | (simp [*, aN, aK] <;> rfl), by repeat (first | (with_reducible first | exact HB.out | apply ak | apply ah | apply au) | exact HB.out)⟩
       · replace c19 := Bool.eq_false_iff.mpr c19
         subst c19
         have H1 : (some (t130, t131)) = some (r1, r2) := by rw [if_neg (show ¬ (false = true) by decide)] at H; exact H
         clear H
         have H := H1
         clear H1
         simp only [Option.some.injEq, Prod.mk.injEq] at H
         obtain ⟨rfl, rfl⟩ := H
         go_enter Try.func93, Try.ntmps93
         go_wp2_with (first | ((with_reducible refine aF (f := 95) rfl ?_); refine a_ (some 21) rfl rfl Try.func95 (by kernel_rfl) rfl #[.int .i64 a0, .int .i64 a1] rfl (by (try simp only [List.map_toArray, List.map_cons, List.map_nil]); first | done | rfl | (simp only [List.length_drop, List.length_take]; rfl)) ?_; (with_reducible refine (bK.calls a0 a1 t121 t122 false _ A3.out).mono ?_); rintro e w22 ⟨rfl, hb⟩; refine ⟨_, rfl, ?_⟩; have bF := aj.mk (aP (by repeat (first | (with_reducible first | exact HB.out | apply ak | apply ah | apply au) | exact HB.out)) hb); clear HB; have HB := bF; clear bF; (try clear hb); (try clear hb2); (try clear hk); (try clear hi)) | ((with_reducible refine aF (f := 97) rfl ?_); refine a_ (some 39) rfl rfl Try.func97 (by kernel_rfl) rfl #[.int .i64 t121] rfl (by (try simp only [List.map_toArray, List.map_cons, List.map_nil]); first | done | rfl | (simp only [List.length_drop, List.length_take]; rfl)) ?_; (with_reducible refine (bf.calls t121 t124 _ UC.out).mono ?_); rintro e w' ⟨rfl, ⟨nd, rfl⟩⟩; refine ⟨_, rfl, ?_⟩) | ((with_reducible refine aF (f := 97) rfl ?_); refine a_ (some 41) rfl rfl Try.func97 (by kernel_rfl) rfl #[.int .i64 t122] rfl (by (try simp only [List.map_toArray, List.map_cons, List.map_nil]); first | done | rfl | (simp only [List.length_drop, List.length_take]; rfl)) ?_; (with_reducible refine (bf.calls t122 t125 _ UA.out).mono ?_); rintro e w' ⟨rfl, ⟨nd, rfl⟩⟩; refine ⟨_, rfl, ?_⟩) | ((with_reducible refine aF (f := 112) rfl ?_); refine a_ (some 59) rfl rfl Try.func112 (by kernel_rfl) rfl #[.int .u64 (t124 / 1099511627776), .int .u64 (IntKind.u64.wrap (t124 * 16777216)), .int .u64 t125] rfl (by (try simp only [List.map_toArray, List.map_cons, List.map_nil]); first | done | rfl | (simp only [List.length_drop, List.length_take]; rfl)) ?_; (with_reducible refine (aQ.calls k (t124 / 1099511627776) (IntKind.u64.wrap (t124 * 16777216)) t125 t128 t129 _ MQ.out).mono ?_); rintro e w' ⟨rfl, ⟨nd, rfl⟩⟩; refine ⟨_, rfl, ?_⟩) | ((with_reducible refine aF (f := 98) rfl ?_); refine a_ (some 84) rfl rfl Try.func98 (by kernel_rfl) rfl #[.int .u64 0, .int .u64 (IntKind.u64.wrap (t128 + 1)), .bool ((decide (t121 < 0)) != (decide (t122 < 0)))] rfl (by (try simp only [List.map_toArray, List.map_cons, List.map_nil]); first | done | rfl | (simp only [List.length_drop, List.length_take]; rfl)) ?_; (with_reducible refine (aS.calls 0 (IntKind.u64.wrap (t128 + 1)) ((decide (t121 < 0)) != (decide (t122 < 0))) t130 t131 _ yw.out).mono ?_); rintro e w23 ⟨rfl, hb⟩; refine ⟨_, rfl, ?_⟩; have bF := aj.mk (aP (by repeat (first | (with_reducible first | exact HB.out | apply ak | apply ah | apply au) | exact HB.out)) hb); clear HB; have HB := bF; clear bF; (try clear hb); (try clear hb2); (try clear hk); (try clear hi)))
         go_ret2
         exact ⟨by first | rfl | (simp [aN, aK] <;> rfl) | (simp [*, aN, aK] <;> rfl), by repeat (first | (with_reducible first | exact HB.out | apply ak | apply ah | apply au) | exact HB.out)⟩
     · rw [if_neg c17] at H
       have Y5 : decide ((IntKind.u64.wrap (t125 - t129)) < t129) = false := decide_eq_false c17
       clear c17
       by_cases c24 : t129 = (IntKind.u64.wrap (t125 - t129))
       · rw [if_pos c24] at H
         have LQ : (t129 == (IntKind.u64.wrap (t125 - t129))) = true := beq_iff_eq.mpr c24
         have LP : (t129 != (IntKind.u64.wrap (t125 - t129))) = false := bne_eq_false_iff_eq.mpr c24
         clear c24
         by_cases c25 : (Go.bits .and .u64 t128 1) = 1
         · rw [if_pos c25] at H
           have Y3 : ((Go.bits .and .u64 t128 1) == 1) = true := beq_iff_eq.mpr c25
           have Y2 : ((Go.bits .and .u64 t128 1) != 1) = false := bne_eq_false_iff_eq.mpr c25
           clear c25
           replace H := Option.bind_eq_some_iff.mp H
           obtain ⟨⟨t132, t133⟩, aaB, H⟩ := H
           replace H : (if t123 = true then (some (t132, true)) else (some (t132, t133))) = some (r1, r2) := H
           have A26 := aj.mk aaB
           clear aaB
           by_cases J_ : t123 = true
           · subst J_
             rw [if_pos rfl] at H
             simp only [Option.some.injEq, Prod.mk.injEq] at H
             obtain ⟨rfl, rfl⟩ := H
             go_enter Try.func93, Try.ntmps93
             go_wp2_with (first | ((with_reducible refine aF (f := 95) rfl ?_); refine a_ (some 21) rfl rfl Try.func95 (by kernel_rfl) rfl #[.int .i64 a0, .int .i64 a1] rfl (by (try simp only [List.map_toArray, List.map_cons, List.map_nil]); first | done | rfl | (simp only [List.length_drop, List.length_take]; rfl)) ?_; (with_reducible refine (bK.calls a0 a1 t121 t122 true _ A3.out).mono ?_); rintro e w28 ⟨rfl, hb⟩; refine ⟨_, rfl, ?_⟩; have bF := aj.mk (aP (by repeat (first | (with_reducible first | exact HB.out | apply ak | apply ah | apply au) | exact HB.out)) hb); clear HB; have HB := bF; clear bF; (try clear hb); (try clear hb2); (try clear hk); (try clear hi)) | ((with_reducible refine aF (f := 97) rfl ?_); refine a_ (some 39) rfl rfl Try.func97 (by kernel_rfl) rfl #[.int .i64 t121] rfl (by (try simp only [List.map_toArray, List.map_cons, List.map_nil]); first | done | rfl | (simp only [List.length_drop, List.length_take]; rfl)) ?_; (with_reducible refine (bf.calls t121 t124 _ UC.out).mono ?_); rintro e w' ⟨rfl, ⟨nd, rfl⟩⟩; refine ⟨_, rfl, ?_⟩) | ((with_reducible refine aF (f := 97) rfl ?_); refine a_ (some 41) rfl rfl Try.func97 (by kernel_rfl) rfl #[.int .i64 t122] rfl (by (try simp only [List.map_toArray, List.map_cons, List.map_nil]); first | done | rfl | (simp only [List.length_drop, List.length_take]; rfl)) ?_; (with_reducible refine (bf.calls t122 t125 _ UA.out).mono ?_); rintro e w' ⟨rfl, ⟨nd, rfl⟩⟩; refine ⟨_, rfl, ?_⟩) | ((with_reducible refine aF (f := 112) rfl ?_); refine a_ (some 59) rfl rfl Try.func112 (by kernel_rfl) rfl #[.int .u64 (t124 / 1099511627776), .int .u64 (IntKind.u64.wrap (t124 * 16777216)), .int .u64 t125] rfl (by (try simp only [List.map_toArray, List.map_cons, List.map_nil]); first | done | rfl | (simp only [List.length_drop, List.length_take]; rfl)) ?_; (with_reducible refine (aQ.calls k (t124 / 1099511627776) (IntKind.u64.wrap (t124 * 16777216)) t125 t128 t129 _ MQ.out).mono ?_); rintro e w' ⟨rfl, ⟨nd, rfl⟩⟩; refine ⟨_, rfl, ?_⟩) | ((with_reducible refine aF (f := 98) rfl ?_); refine a_ (some 84) rfl rfl Try.func98 (by kernel_rfl) rfl #[.int .u64 0, .int .u64 (IntKind.u64.wrap (t128 + 1)), .bool ((decide (t121 < 0)) != (decide (t122 < 0)))] rfl (by (try simp only [List.map_toArray, List.map_cons, List.map_nil]); first | done | rfl | (simp only [List.length_drop, List.length_take]; rfl)) ?_; (with_reducible refine (aS.calls 0 (IntKind.u64.wrap (t128 + 1)) ((decide (t121 < 0)) != (decide (t122 < 0))) t132 t133 _ A26.out).mono ?_); rintro e w29 ⟨rfl, hb⟩; refine ⟨_, rfl, ?_⟩; have bF := aj.mk (aP (by repeat (first | (with_reducible first | exact HB.out | apply ak | apply ah | apply au) | exact HB.out)) hb); clear HB; have HB := bF; clear bF; (try clear hb); (try clear hb2); (try clear hk); (try clear hi)))
             go_ret2
             exact ⟨by first | rfl | (simp [aN, aK] <;> rfl) | (simp [*, aN, aK] <;> rfl), by repeat (first | (with_reducible first | exact HB.out | apply ak | apply ah | apply au) | exact HB.out)⟩
           · replace J_ := Bool.eq_false_iff.mpr J_
             subst J_
             have H1 : (some (t132, t133)) = some (r1, r2) := by rw [if_neg (show ¬ (false = true) by decide)] at H; exact H
             clear H
             have H := H1
             clear H1
             simp only [Option.some.injEq, Prod.mk.injEq] at H
             obtain ⟨rfl, rfl⟩ := H
             go_enter Try.func93, Try.ntmps93
             go_wp2_with (first | ((with_reducible refine aF (f := 95) rfl ?_); refine a_ (some 21) rfl rfl Try.func95 (by kernel_rfl) rfl #[.int .i64 a0, .int .i64 a1] rfl (by (try simp only [List.map_toArray, List.map_cons, List.map_nil]); first | done | rfl | (simp only [List.length_drop, List.length_take]; rfl)) ?_; (with_reducible refine (bK.calls a0 a1 t121 t122 false _ A3.out).mono ?_); rintro e w30 ⟨rfl, hb⟩; refine ⟨_, rfl, ?_⟩; have bF := aj.mk (aP (by repeat (first | (with_reducible first | exact HB.out | apply ak | apply ah | apply au) | exact HB.out)) hb); clear HB; have HB := bF; clear bF; (try clear hb); (try clear hb2); (try clear hk); (try clear hi)) | ((with_reducible refine aF (f := 97) rfl ?_); refine a_ (some 39) rfl rfl Try.func97 (by kernel_rfl) rfl #[.int .i64 t121] rfl (by (try simp only [List.map_toArray, List.map_cons, List.map_nil]); first | done | rfl | (simp only [List.length_drop, List.length_take]; rfl)) ?_; (with_reducible refine (bf.calls t121 t124 _ UC.out).mono ?_); rintro e w' ⟨rfl, ⟨nd, rfl⟩⟩; refine ⟨_, rfl, ?_⟩) | ((with_reducible refine aF (f := 97) rfl ?_); refine a_ (some 41) rfl rfl Try.func97 (by kernel_rfl) rfl #[.int .i64 t122] rfl (by (try simp only [List.map_toArray, List.map_cons, List.map_nil]); first | done | rfl | (simp only [List.length_drop, List.length_take]; rfl)) ?_; (with_reducible refine (bf.calls t122 t125 _ UA.out).mono ?_); rintro e w' ⟨rfl, ⟨nd, rfl⟩⟩; refine ⟨_, rfl, ?_⟩) | ((with_reducible refine aF (f := 112) rfl ?_); refine a_ (some 59) rfl rfl Try.func112 (by kernel_rfl) rfl #[.int .u64 (t124 / 1099511627776), .int .u64 (IntKind.u64.wrap (t124 * 16777216)), .int .u64 t125] rfl (by (try simp only [List.map_toArray, List.map_cons, List.map_nil]); first | done | rfl | (simp only [List.length_drop, List.length_take]; rfl)) ?_; (with_reducible refine (aQ.calls k (t124 / 1099511627776) (IntKind.u64.wrap (t124 * 16777216)) t125 t128 t129 _ MQ.out).mono ?_); rintro e w' ⟨rfl, ⟨nd, rfl⟩⟩; refine ⟨_, rfl, ?_⟩) | ((with_reducible refine aF (f := 98) rfl ?_); refine a_ (some 84) rfl rfl Try.func98 (by kernel_rfl) rfl #[.int .u64 0, .int .u64 (IntKind.u64.wrap (t128 + 1)), .bool ((decide (t121 < 0)) != (decide (t122 < 0)))] rfl (by (try simp only [List.map_toArray, List.map_cons, List.map_nil]); first | done | rfl | (simp only [List.length_drop, List.length_take]; rfl)) ?_; (with_reducible refine (aS.calls 0 (IntKind.u64.wrap (t128 + 1)) ((decide (t121 < 0)) != (decide (t122 < 0))) t132 t133 _ A26.out).mono ?_); rintro e w31 ⟨rfl, hb⟩; refine ⟨_, rfl, ?_⟩; have bF := aj.mk (aP (by repeat (first | (with_reducible first | exact HB.out | apply ak | apply ah | apply au) | exact HB.out)) hb); clear HB; have HB := bF; clear bF; (try clear hb); (try clear hb2); (try clear hk); (try clear hi)))
             go_ret2
             exact ⟨by first | rfl | (simp [aN, aK] <;> rfl) | (simp [*, aN, aK] <;> rfl), by repeat (first | (with_reducible first | exact HB.out | apply ak | apply ah | apply au) | exact HB.out)⟩
         · rw [if_neg c25] at H
           have Y3 : ((Go.bits .and .u64 t128 1) == 1) = false := beq_eq_false_iff_ne.mpr c25
           have Y2 : ((Go.bits .and .u64 t128 1) != 1) = true := bne_iff_ne.mpr c25
           replace H := Option.bind_eq_some_iff.mp H
           obtain ⟨⟨t134, t135⟩, aaz, H⟩ := H
           replace H : (if t123 = true then (some (t134, true)) else (some (t134, t135))) = some (r1, r2) := H
           have A32 := aj.mk aaz
           clear aaz
           by_cases Ph : t123 = true
           · subst Ph
             rw [if_pos rfl] at H
             simp only [Option.some.injEq, Prod.mk.injEq] at H
             obtain ⟨rfl, rfl⟩ := H
             go_enter Try.func93, Try.ntmps93
             go_wp2_with (first | ((with_reducible refine aF (f := 95) rfl ?_); refine a_ (some 21) rfl rfl Try.func95 (by kernel_rfl) rfl #[.int .i64 a0, .int .i64 a1] rfl (by (try simp only [List.map_toArray, List.map_cons, List.map_nil]); first | done | rfl | (simp only [List.length_drop, List.length_take]; rfl)) ?_; (with_reducible refine (bK.calls a0 a1 t121 t122 true _ A3.out).mono ?_); rintro e w34 ⟨rfl, hb⟩; refine ⟨_, rfl, ?_⟩; have bF := aj.mk (aP (by repeat (first | (with_reducible first | exact HB.out | apply ak | apply ah | apply au) | exact HB.out)) hb); clear HB; have HB := bF; clear bF; (try clear hb); (try clear hb2); (try clear hk); (try clear hi)) | ((with_reducible refine aF (f := 97) rfl ?_); refine a_ (some 39) rfl rfl Try.func97 (by kernel_rfl) rfl #[.int .i64 t121] rfl (by (try simp only [List.map_toArray, List.map_cons, List.map_nil]); first | done | rfl | (simp only [List.length_drop, List.length_take]; rfl)) ?_; (with_reducible refine (bf.calls t121 t124 _ UC.out).mono ?_); rintro e w' ⟨rfl, ⟨nd, rfl⟩⟩; refine ⟨_, rfl, ?_⟩) | ((with_reducible refine aF (f := 97) rfl ?_); refine a_ (some 41) rfl rfl Try.func97 (by kernel_rfl) rfl #[.int .i64 t122] rfl (by (try simp only [List.map_toArray, List.map_cons, List.map_nil]); first | done | rfl | (simp only [List.length_drop, List.length_take]; rfl)) ?_; (with_reducible refine (bf.calls t122 t125 _ UA.out).mono ?_); rintro e w' ⟨rfl, ⟨nd, rfl⟩⟩; refine ⟨_, rfl, ?_⟩) | ((with_reducible refine aF (f := 112) rfl ?_); refine a_ (some 59) rfl rfl Try.func112 (by kernel_rfl) rfl #[.int .u64 (t124 / 1099511627776), .int .u64 (IntKind.u64.wrap (t124 * 16777216)), .int .u64 t125] rfl (by (try simp only [List.map_toArray, List.map_cons, List.map_nil]); first | done | rfl | (simp only [List.length_drop, List.length_take]; rfl)) ?_; (with_reducible refine (aQ.calls k (t124 / 1099511627776) (IntKind.u64.wrap (t124 * 16777216)) t125 t128 t129 _ MQ.out).mono ?_); rintro e w' ⟨rfl, ⟨nd, rfl⟩⟩; refine ⟨_, rfl, ?_⟩) | ((with_reducible refine aF (f := 98) rfl ?_); refine a_ (some 84) rfl rfl Try.func98 (by kernel_rfl) rfl #[.int .u64 0, .int .u64 t128, .bool ((decide (t121 < 0)) != (decide (t122 < 0)))] rfl (by (try simp only [List.map_toArray, List.map_cons, List.map_nil]); first | done | rfl | (simp only [List.length_drop, List.length_take]; rfl)) ?_; (with_reducible refine (aS.calls 0 t128 ((decide (t121 < 0)) != (decide (t122 < 0))) t134 t135 _ A32.out).mono ?_); rintro e w35 ⟨rfl, hb⟩; refine ⟨_, rfl, ?_⟩; have bF := aj.mk (aP (by repeat (first | (with_reducible first | exact HB.out | apply ak | apply ah | apply au) | exact HB.out)) hb); clear HB; have HB := bF; clear bF; (try clear hb); (try clear hb2); (try clear hk); (try clear hi)))
             go_ret2
             exact ⟨by first | rfl | (simp [aN, aK] <;> rfl) | (simp [*, aN, aK] <;> rfl), by repeat (first | (with_reducible first | exact HB.out | apply ak | apply ah | apply au) | exact HB.out)⟩
           · replace Ph := Bool.eq_false_iff.mpr Ph
             subst Ph
             have H1 : (some (t134, t135)) = some (r1, r2) := by rw [if_neg (show ¬ (false = true) by decide)] at H; exact H
             clear H
             have H := H1
             clear H1
             simp only [Option.some.injEq, Prod.mk.injEq] at H
             obtain ⟨rfl, rfl⟩ := H
             go_enter Try.func93, Try.ntmps93
             go_wp2_with (first | ((with_reducible refine aF (f := 95) rfl ?_); refine a_ (some 21) rfl rfl Try.func95 (by kernel_rfl) rfl #[.int .i64 a0, .int .i64 a1] rfl (by (try simp only [List.map_toArray, List.map_cons, List.map_nil]); first | done | rfl | (simp only [List.length_drop, List.length_take]; rfl)) ?_; (with_reducible refine (bK.calls a0 a1 t121 t122 false _ A3.out).mono ?_); rintro e w36 ⟨rfl, hb⟩; refine ⟨_, rfl, ?_⟩; have bF := aj.mk (aP (by repeat (first | (with_reducible first | exact HB.out | apply ak | apply ah | apply au) | exact HB.out)) hb); clear HB; have HB := bF; clear bF; (try clear hb); (try clear hb2); (try clear hk); (try clear hi)) | ((with_reducible refine aF (f := 97) rfl ?_); refine a_ (some 39) rfl rfl Try.func97 (by kernel_rfl) rfl #[.int .i64 t121] rfl (by (try simp only [List.map_toArray, List.map_cons, List.map_nil]); first | done | rfl | (simp only [List.length_drop, List.length_take]; rfl)) ?_; (with_reducible refine (bf.calls t121 t124 _ UC.out).mono ?_); rintro e w' ⟨rfl, ⟨nd, rfl⟩⟩; refine ⟨_, rfl, ?_⟩) | ((with_reducible refine aF (f := 97) rfl ?_); refine a_ (some 41) rfl rfl Try.func97 (by kernel_rfl) rfl #[.int .i64 t122] rfl (by (try simp only [List.map_toArray, List.map_cons, List.map_nil]); first | done | rfl | (simp only [List.length_drop, List.length_take]; rfl)) ?_; (with_reducible refine (bf.calls t122 t125 _ UA.out).mono ?_); rintro e w' ⟨rfl, ⟨nd, rfl⟩⟩; refine ⟨_, rfl, ?_⟩) | ((with_reducible refine aF (f := 112) rfl ?_); refine a_ (some 59) rfl rfl Try.func112 (by kernel_rfl) rfl #[.int .u64 (t124 / 1099511627776), .int .u64 (IntKind.u64.wrap (t124 * 16777216)), .int .u64 t125] rfl (by (try simp only [List.map_toArray, List.map_cons, List.map_nil]); first | done | rfl | (simp only [List.length_drop, List.length_take]; rfl)) ?_; (with_reducible refine (aQ.calls k (t124 / 1099511627776) (IntKind.u64.wrap (t124 * 16777216)) t125 t128 t129 _ MQ.out).mono ?_); rintro e w' ⟨rfl, ⟨nd, rfl⟩⟩; refine ⟨_, rfl, ?_⟩) | ((with_reducible refine aF (f := 98) rfl ?_); refine a_ (some 84) rfl rfl Try.func98 (by kernel_rfl) rfl #[.int .u64 0, .int .u64 t128, .bool ((decide (t121 < 0)) != (decide (t122 < 0)))] rfl (by (try simp only [List.map_toArray, List.map_cons, List.map_nil]); first | done | rfl | (simp only [List.length_drop, List.length_take]; rfl)) ?_; (with_reducible refine (aS.calls 0 t128 ((decide (t121 < 0)) != (decide (t122 < 0))) t134 t135 _ A32.out).mono ?_); rintro e w37 ⟨rfl, hb⟩; refine ⟨_, rfl, ?_⟩; have bF := aj.mk (aP (by repeat (first | (with_reducible first | exact HB.out | apply ak | apply ah | apply au) | exact HB.out)) hb); clear HB; have HB := bF; clear bF; (try clear hb); (try clear hb2); (try clear hk); (try clear hi)))
             go_ret2
             exact ⟨by first | rfl | (simp [aN, aK] <;> rfl) | (simp [*, aN, aK] <;> rfl), by repeat (first | (with_reducible first | exact HB.out | apply ak | apply ah | apply au) | exact HB.out)⟩
       · rw [if_neg c24] at H
         have LQ : (t129 == (IntKind.u64.wrap (t125 - t129))) = false := beq_eq_false_iff_ne.mpr c24
         have LP : (t129 != (IntKind.u64.wrap (t125 - t129))) = true := bne_iff_ne.mpr c24
         replace H := Option.bind_eq_some_iff.mp H
         obtain ⟨⟨t136, t137⟩, aay, H⟩ := H
         replace H : (if t123 = true then (some (t136, true)) else (some (t136, t137))) = some (r1, r2) := H
         have A38 := aj.mk aay
         clear aay
         by_cases c39 : t123 = true
         · subst c39
           rw [if_pos rfl] at H
           simp only [Option.some.injEq, Prod.mk.injEq] at H
           obtain ⟨rfl, rfl⟩ := H
           go_enter Try.func93, Try.ntmps93
           go_wp2_with (first | ((with_reducible refine aF (f := 95) rfl ?_); refine a_ (some 21) rfl rfl Try.func95 (by kernel_rfl) rfl #[.int .i64 a0, .int .i64 a1] rfl (by (try simp only [List.map_toArray, List.map_cons, List.map_nil]); first | done | rfl | (simp only [List.length_drop, List.length_take]; rfl)) ?_; (with_reducible refine (bK.calls a0 a1 t121 t122 true _ A3.out).mono ?_); rintro e w40 ⟨rfl, hb⟩; refine ⟨_, rfl, ?_⟩; have bF := aj.mk (aP (by repeat (first | (with_reducible first | exact HB.out | apply ak | apply ah | apply au) | exact HB.out)) hb); clear HB; have HB := bF; clear bF; (try clear hb); (try clear hb2); (try clear hk); (try clear hi)) | ((with_reducible refine aF (f := 97) rfl ?_); refine a_ (some 39) rfl rfl Try.func97 (by kernel_rfl) rfl #[.int .i64 t121] rfl (by (try simp only [List.map_toArray, List.map_cons, List.map_nil]); first | done | rfl | (simp only [List.length_drop, List.length_take]; rfl)) ?_; (with_reducible refine (bf.calls t121 t124 _ UC.out).mono ?_); rintro e w' ⟨rfl, ⟨nd, rfl⟩⟩; refine ⟨_, rfl, ?_⟩) | ((with_reducible refine aF (f := 97) rfl ?_); refine a_ (some 41) rfl rfl Try.func97 (by kernel_rfl) rfl #[.int .i64 t122] rfl (by (try simp only [List.map_toArray, List.map_cons, List.map_nil]); first | done | rfl | (simp only [List.length_drop, List.length_take]; rfl)) ?_; (with_reducible refine (bf.calls t122 t125 _ UA.out).mono ?_); rintro e w' ⟨rfl, ⟨nd, rfl⟩⟩; refine ⟨_, rfl, ?_⟩) | ((with_reducible refine aF (f := 112) rfl ?_); refine a_ (some 59) rfl rfl Try.func112 (by kernel_rfl) rfl #[.int .u64 (t124 / 1099511627776), .int .u64 (IntKind.u64.wrap (t124 * 16777216)), .int .u64 t125] rfl (by (try simp only [List.map_toArray, List.map_cons, List.map_nil]); first | done | rfl | (simp only [List.length_drop, List.length_take]; rfl)) ?_; (with_reducible refine (aQ.calls k (t124 / 1099511627776) (IntKind.u64.wrap (t124 * 16777216)) t125 t128 t129 _ MQ.out).mono ?_); rintro e w' ⟨rfl, ⟨nd, rfl⟩⟩; refine ⟨_, rfl, ?_⟩) | ((with_reducible refine aF (f := 98) rfl ?_); refine a_ (some 84) rfl rfl Try.func98 (by kernel_rfl) rfl #[.int .u64 0, .int .u64 t128, .bool ((decide (t121 < 0)) != (decide (t122 < 0)))] rfl (by (try simp only [List.map_toArray, List.map_cons, List.map_nil]); first | done | rfl | (simp only [List.length_drop, List.length_take]; rfl)) ?_; (with_reducible refine (aS.calls 0 t128 ((decide (t121 < 0)) != (decide (t122 < 0))) t136 t137 _ A38.out).mono ?_); rintro e w41 ⟨rfl, hb⟩; refine ⟨_, rfl, ?_⟩; have bF := aj.mk (aP (by repeat (first | (with_reducible first | exact HB.out | apply ak | apply ah | apply au) | exact HB.out)) hb); clear HB; have HB := bF; clear bF; (try clear hb); (try clear hb2); (try clear hk); (try clear hi)))
           go_ret2
           exact ⟨by first | rfl | (simp [aN, aK] <;> rfl) | (simp [*, aN, aK] <;> rfl), by repeat (first | (with_reducible first | exact HB.out | apply ak | apply ah | apply au) | exact HB.out)⟩
         · replace c39 := Bool.eq_false_iff.mpr c39
           subst c39
           have H1 : (some (t136, t137)) = some (r1, r2) := by rw [if_neg (show ¬ (false = true) by decide)] at H; exact H
           clear H
           have H := H1
           clear H1
           simp only [Option.some.injEq, Prod.mk.injEq] at H
           obtain ⟨rfl, rfl⟩ := H
           go_enter Try.func93, Try.ntmps93
           go_wp2_with (first | ((with_reducible refine aF (f := 95) rfl ?_); refine a_ (some 21) rfl rfl Try.func95 (by kernel_rfl) rfl #[.int .i64 a0, .int .i64 a1] rfl (by (try simp only [List.map_toArray, List.map_cons, List.map_nil]); first | done | rfl | (simp only [List.length_drop, List.length_take]; rfl)) ?_; (with_reducible refine (bK.calls a0 a1 t121 t122 false _ A3.out).mono ?_); rintro e w42 ⟨rfl, hb⟩; refine ⟨_, rfl, ?_⟩; have bF := aj.mk (aP (by repeat (first | (with_reducible first | exact HB.out | apply ak | apply ah | apply au) | exact HB.out)) hb); clear HB; have HB := bF; clear bF; (try clear hb); (try clear hb2); (try clear hk); (try clear hi)) | ((with_reducible refine aF (f := 97) rfl ?_); refine a_ (some 39) rfl rfl Try.func97 (by kernel_rfl) rfl #[.int .i64 t121] rfl (by (try simp only [List.map_toArray, List.map_cons, List.map_nil]); first | done | rfl | (simp only [List.length_drop, List.length_take]; rfl)) ?_; (with_reducible refine (bf.calls t121 t124 _ UC.out).mono ?_); rintro e w' ⟨rfl, ⟨nd, rfl⟩⟩; refine ⟨_, rfl, ?_⟩) | ((with_reducible refine aF (f := 97) rfl ?_); refine a_ (some 41) rfl rfl Try.func97 (by kernel_rfl) rfl #[.int .i64 t122] rfl (by (try simp only [List.map_toArray, List.map_cons, List.map_nil]); first | done | rfl | (simp only [List.length_drop, List.length_take]; rfl)) ?_; (with_reducible refine (bf.calls t122 t125 _ UA.out).mono ?_); rintro e w' ⟨rfl, ⟨nd, rfl⟩⟩; refine ⟨_, rfl, ?_⟩) | ((with_reducible refine aF (f := 112) rfl ?_); refine a_ (some 59) rfl rfl Try.func112 (by kernel_rfl) rfl #[.int .u64 (t124 / 1099511627776), .int .u64 (IntKind.u64.wrap (t124 * 16777216)), .int .u64 t125] rfl (by (try simp only [List.map_toArray, List.map_cons, List.map_nil]); first | done | rfl | (simp only [List.length_drop, List.length_take]; rfl)) ?_; (with_reducible refine (aQ.calls k (t124 / 1099511627776) (IntKind.u64.wrap (t124 * 16777216)) t125 t128 t129 _ MQ.out).mono ?_); rintro e w' ⟨rfl, ⟨nd, rfl⟩⟩; refine ⟨_, rfl, ?_⟩) | ((with_reducible refine aF (f := 98) rfl ?_); refine a_ (some 84) rfl rfl Try.func98 (by kernel_rfl) rfl #[.int .u64 0, .int .u64 t128, .bool ((decide (t121 < 0)) != (decide (t122 < 0)))] rfl (by (try simp only [List.map_toArray, List.map_cons, List.map_nil]); first | done | rfl | (simp only [List.length_drop, List.length_take]; rfl)) ?_; (with_reducible refine (aS.calls 0 t128 ((decide (t121 < 0)) != (decide (t122 < 0))) t136 t137 _ A38.out).mono ?_); rintro e w43 ⟨rfl, hb⟩; refine ⟨_, rfl, ?_⟩; have bF := aj.mk (aP (by repeat (first | (with_reducible first | exact HB.out | apply ak | apply ah | apply au) | exact HB.out)) hb); clear HB; have HB := bF; clear bF; (try clear hb); (try clear hb2); (try clear hk); (try clear hi)))
           go_ret2
           exact ⟨by first | rfl | (simp [aN, aK] <;> rfl) | (simp [*, aN, aK] <;> rfl), by repeat (first | (with_reducible first | exact HB.out | apply ak | apply ah | apply au) | exact HB.out)⟩
def pX.f (a0 : Int) (a1 : Int) : Option (Int × Bool) := (bK.f a0 a1).bind fun BK => ((bT.f (wrap64 (BK.1 - BK.2.1))).bind fun tV => (if BK.2.2 = true then (some (tV.1, true)) else (some (tV.1, tV.2))))
theorem pX.calls (a0 : Int) (a1 : Int) (r1 : Int) (r2 : Bool) (w : World) (h : pX.f a0 a1 = some (r1, r2)) :
 Calls Try.prog 66 #[.int .i64 a0, .int .i64 a1] w fun e w' => e = .returned (.tuple #[.int .i64 r1, .bool r2]) ∧ Below w.heap.size w w' := by
 have HB := aj.mk (Below.refl w.heap.size w)
 have H : ((bK.f a0 a1).bind fun BK => ((bT.f (wrap64 (BK.1 - BK.2.1))).bind fun tV => (if BK.2.2 = true then (some (tV.1, true)) else (some (tV.1, tV.2))))) = some (r1, r2) := h
 clear h
 replace H := Option.bind_eq_some_iff.mp H
 obtain ⟨⟨t138, t139, t140⟩, Cc, H⟩ := H
 replace H : ((bT.f (wrap64 (t138 - t139))).bind fun tV => (if t140 = true then (some (tV.1, true)) else (some (tV.1, tV.2)))) = some (r1, r2) := H
 have A3 := aj.mk Cc
 clear Cc
 replace H := Option.bind_eq_some_iff.mp H
 obtain ⟨⟨t141, t142⟩, IY, H⟩ := H
 replace H : (if t140 = true then (some (t141, true)) else (some (t141, t142))) = some (r1, r2) := H
 have A4 := aj.mk IY
 clear IY
 by_cases c5 : t140 = true
 · subst c5
   rw [if_pos rfl] at H
   simp only [Option.some.injEq, Prod.mk.injEq] at H
   obtain ⟨rfl, rfl⟩ := H
   go_enter Try.func66, Try.ntmps66
   go_wp2_with (first | ((with_reducible refine aF (f := 95) rfl ?_); refine a_ (some 12) rfl rfl Try.func95 (by kernel_rfl) rfl #[.int .i64 a0, .int .i64 a1] rfl (by (try simp only [List.map_toArray, List.map_cons, List.map_nil]); first | done | rfl | (simp only [List.length_drop, List.length_take]; rfl)) ?_; (with_reducible refine (bK.calls a0 a1 t138 t139 true _ A3.out).mono ?_); rintro e w6 ⟨rfl, hb⟩; refine ⟨_, rfl, ?_⟩; have bF := aj.mk (aP (by repeat (first | (with_reducible first | exact HB.out | apply ak | apply ah | apply au) | exact HB.out)) hb); clear HB; have HB := bF; clear bF; (try clear hb); (try clear hb2); (try clear hk); (try clear hi)) | ((with_reducible refine aF (f := 86) rfl ?_); refine a_ (some 20) rfl rfl Try.func86 (by kernel_rfl) rfl #[.int .i64 (wrap64 (t138 - t139))] rfl (by (try simp only [List.map_toArray, List.map_cons, List.map_nil]); first | done | rfl | (simp only [List.length_drop, List.length_take]; rfl)) ?_; (with_reducible refine (bT.calls (wrap64 (t138 - t139)) t141 t142 _ A4.out).mono ?_); rintro e w7 ⟨rfl, hb⟩; refine ⟨_, rfl, ?_⟩; have bF := aj.mk (aP (by repeat (first | (with_reducible first | exact HB.out | apply ak | apply ah | apply au) | exact HB.out)) hb); clear HB; have HB := bF; clear bF; (try clear hb); (try clear hb2); (try clear hk); (try clear hi)))
   go_ret2
   exact ⟨by first | rfl | (simp [aN, aK] <;> rfl) | (simp [*, aN, aK] <;> rfl), by repeat (first | (with_reducible first | exact HB.out | apply ak | apply ah | apply au) | exact HB.out)⟩
 · replace c5 := Bool.eq_false_iff.mpr c5
   subst c5
   have H1 : (some (t141, t142)) = some (r1, r2) := by rw [if_neg (show ¬ (false = true) by decide)] at H; exact H
   clear H
   have H := H1
   clear H1
   simp only [Option.some.injEq, Prod.mk.injEq] at H
   obtain ⟨rfl, rfl⟩ := H
   go_enter Try.func66, Try.ntmps66
   go_wp2_with (first | ((with_reducible refine aF (f := 95) rfl ?_); refine a_ (some 12) rfl rfl Try.func95 (by kernel_rfl) rfl #[.int .i64 a0, .int .i64 a1] rfl (by (try simp only [List.map_toArray, List.map_cons, List.map_nil]); first | done | rfl | (simp only [List.length_drop, List.length_take]; rfl)) ?_; (with_reducible refine (bK.calls a0 a1 t138 t139 false _ A3.out).mono ?_); rintro e w8 ⟨rfl, hb⟩; refine ⟨_, rfl, ?_⟩; have bF := aj.mk (aP (by repeat (first | (with_reducible first | exact HB.out | apply ak | apply ah | apply au) | exact HB.out)) hb); clear HB; have HB := bF; clear bF; (try clear hb); (try clear hb2); (try clear hk); (try clear hi)) | ((with_reducible refine aF (f := 86) rfl ?_); refine a_ (some 20) rfl rfl Try.func86 (by kernel_rfl) rfl #[.int .i64 (wrap64 (t138 - t139))] rfl (by (try simp only [List.map_toArray, List.map_cons, List.map_nil]); first | done | rfl | (simp only [List.length_drop, List.length_take]; rfl)) ?_; (with_reducible refine (bT.calls (wrap64 (t138 - t139)) t141 t142 _ A4.out).mono ?_); rintro e w9 ⟨rfl, hb⟩; refine ⟨_, rfl, ?_⟩; have bF := aj.mk (aP (by repeat (first | (with_reducible first | exact HB.out | apply ak | apply ah | apply au) | exact HB.out)) hb); clear HB; have HB := bF; clear bF; (try clear hb); (try clear hb2); (try clear hk); (try clear hi)))
   go_ret2
   exact ⟨by first | rfl | (simp [aN, aK] <;> rfl) | (simp [*, aN, aK] <;> rfl), by repeat (first | (with_reducible first | exact HB.out | apply ak | apply ah | apply au) | exact HB.out)⟩
end Go.Proofs.Ytnijhjbcjeohhaa.PQ

namespace Go.Proofs.Ytnijhjbcjeohhaa.PQ
open Go.RowKit Go.Proofs.af.aO Go.Proofs.af.aU Go.Proofs.af.aV
attribute [local go_sem] gW gU jq jo fP fO gV gQ
set_option linter.unusedVariables false
set_option linter.unusedSimpArgs false
def p_.f (a0 : Int) (a1 : Int) : Option (Int × Bool) := (bK.f a0 a1).bind fun BJ => ((bT.f (wrap64 (BJ.1 + BJ.2.1))).bind fun tN => (if BJ.2.2 = true then (some (tN.1, true)) else (some (tN.1, tN.2))))
theorem p_.calls (a0 : Int) (a1 : Int) (r1 : Int) (r2 : Bool) (w : World) (h : p_.f a0 a1 = some (r1, r2)) :
 Calls Try.prog 69 #[.int .i64 a0, .int .i64 a1] w fun e w' => e = .returned (.tuple #[.int .i64 r1, .bool r2]) ∧ Below w.heap.size w w' := by
 have HB := aj.mk (Below.refl w.heap.size w)
 have H : ((bK.f a0 a1).bind fun BJ => ((bT.f (wrap64 (BJ.1 + BJ.2.1))).bind fun tN => (if BJ.2.2 = true then (some (tN.1, true)) else (some (tN.1, tN.2))))) = some (r1, r2) := h
 clear h
 replace H := Option.bind_eq_some_iff.mp H
 obtain ⟨⟨t143, t144, t145⟩, Cc, H⟩ := H
 replace H : ((bT.f (wrap64 (t143 + t144))).bind fun tN => (if t145 = true then (some (tN.1, true)) else (some (tN.1, tN.2)))) = some (r1, r2) := H
 have A3 := aj.mk Cc
 clear Cc
 replace H := Option.bind_eq_some_iff.mp H
 obtain ⟨⟨t146, t147⟩, IY, H⟩ := H
 replace H : (if t145 = true then (some (t146, true)) else (some (t146, t147))) = some (r1, r2) := H
 have A4 := aj.mk IY
 clear IY
 by_cases c5 : t145 = true
 · subst c5
   rw [if_pos rfl] at H
   simp only [Option.some.injEq, Prod.mk.injEq] at H
   obtain ⟨rfl, rfl⟩ := H
   go_enter Try.func69, Try.ntmps69
   go_wp2_with (first | ((with_reducible refine aF (f := 95) rfl ?_); refine a_ (some 12) rfl rfl Try.func95 (by kernel_rfl) rfl #[.int .i64 a0, .int .i64 a1] rfl (by (try simp only [List.map_toArray, List.map_cons, List.map_nil]); first | done | rfl | (simp only [List.length_drop, List.length_take]; rfl)) ?_; (with_reducible refine (bK.calls a0 a1 t143 t144 true _ A3.out).mono ?_); rintro e w6 ⟨rfl, hb⟩; refine ⟨_, rfl, ?_⟩; have bF := aj.mk (aP (by repeat (first | (with_reducible first | exact HB.out | apply ak | apply ah | apply au) | exact HB.out)) hb); clear HB; have HB := bF; clear bF; (try clear hb); (try clear hb2); (try clear hk); (try clear hi)) | ((with_reducible refine aF (f := 86) rfl ?_); refine a_ (some 20) rfl rfl Try.func86 (by kernel_rfl) rfl #[.int .i64 (wrap64 (t143 + t144))] rfl (by (try simp only [List.map_toArray, List.map_cons, List.map_nil]); first | done | rfl | (simp only [List.length_drop, List.length_take]; rfl)) ?_; (with_reducible refine (bT.calls (wrap64 (t143 + t144)) t146 t147 _ A4.out).mono ?_); rintro e w7 ⟨rfl, hb⟩; refine ⟨_, rfl, ?_⟩; have bF := aj.mk (aP (by repeat (first | (with_reducible first | exact HB.out | apply ak | apply ah | apply au) | exact HB.out)) hb); clear HB; have HB := bF; clear bF; (try clear hb); (try clear hb2); (try clear hk); (try clear hi)))
   go_ret2
   exact ⟨by first | rfl | (simp [aN, aK] <;> rfl) | (simp [*, aN, aK] <;> rfl), by repeat (first | (with_reducible first | exact HB.out | apply ak | apply ah | apply au) | exact HB.out)⟩
 · replace c5 := Bool.eq_false_iff.mpr c5
   subst c5
   have H1 : (some (t146, t147)) = some (r1, r2) := by rw [if_neg (show ¬ (false = true) by decide)] at H; exact H
   clear H
   have H := H1
   clear H1
   simp only [Option.some.injEq, Prod.mk.injEq] at H
   obtain ⟨rfl, rfl⟩ := H
   go_enter Try.func69, Try.ntmps69
   go_wp2_with (first | ((with_reducible refine aF (f := 95) rfl ?_); refine a_ (some 12) rfl rfl Try.func95 (by kernel_rfl) rfl #[.int .i64 a0, .int .i64 a1] rfl (by (try simp only [List.map_toArray, List.map_cons, List.map_nil]); first | done | rfl | (simp only [List.length_drop, List.length_take]; rfl)) ?_; (with_reducible refine (bK.calls a0 a1 t143 t144 false _ A3.out).mono ?_); rintro e w8 ⟨rfl, hb⟩; refine ⟨_, rfl, ?_⟩; have bF := aj.mk (aP (by repeat (first | (with_reducible first | exact HB.out | apply ak | apply ah | apply au) | exact HB.out)) hb); clear HB; have HB := bF; clear bF; (try clear hb); (try clear hb2); (try clear hk); (try clear hi)) | ((with_reducible refine aF (f := 86) rfl ?_); refine a_ (some 20) rfl rfl Try.func86 (by kernel_rfl) rfl #[.int .i64 (wrap64 (t143 + t144))] rfl (by (try simp only [List.map_toArray, List.map_cons, List.map_nil]); first | done | rfl | (simp only [List.length_drop, List.length_take]; rfl)) ?_; (with_reducible refine (bT.calls (wrap64 (t143 + t144)) t146 t147 _ A4.out).mono ?_); rintro e w9 ⟨rfl, hb⟩; refine ⟨_, rfl, ?_⟩; have bF := aj.mk (aP (by repeat (first | (with_reducible first | exact HB.out | apply ak | apply ah | apply au) | exact HB.out)) hb); clear HB; have HB := bF; clear bF; (try clear hb); (try clear hb2); (try clear hk); (try clear hi)))
   go_ret2
   exact ⟨by first | rfl | (simp [aN, aK] <;> rfl) | (simp [*, aN, aK] <;> rfl), by repeat (first | (with_reducible first | exact HB.out | apply ak | apply ah | apply au) | exact HB.out)⟩
def jh.f (a0 : Int) (a1 : Int) : Option (Int) := if (mn (mx a1 0) 62) > 0 then (if 0 ≤ ((mn (mx a1 0) 62) - 1) then (if (Go.bits .and .u64 (IntKind.u64.wrap (a0)) (IntKind.u64.wrap ((IntKind.u64.wrap (2 ^ (mn (mx a1 0) 62).toNat)) - 1))) > (IntKind.u64.wrap (2 ^ ((mn (mx a1 0) 62) - 1).toNat)) then (some (wrap64 ((a0 / 2 ^ (mn (mx a1 0) 62).toNat) + 1))) else (if (Go.bits .and .u64 (IntKind.u64.wrap (a0)) (IntKind.u64.wrap ((IntKind.u64.wrap (2 ^ (mn (mx a1 0) 62).toNat)) - 1))) = (IntKind.u64.wrap (2 ^ ((mn (mx a1 0) 62) - 1).toNat)) then (if (Go.bits .and .i64 (a0 / 2 ^ (mn (mx a1 0) 62).toNat) 1) = 1 then (some (wrap64 ((a0 / 2 ^ (mn (mx a1 0) 62).toNat) + 1))) else (some (a0 / 2 ^ (mn (mx a1 0) 62).toNat))) else (some (a0 / 2 ^ (mn (mx a1 0) 62).toNat)))) else (none)) else (some (a0 / 2 ^ (mn (mx a1 0) 62).toNat))
theorem jh.calls (a0 : Int) (a1 : Int) (r : Int) (w : World) (h : jh.f a0 a1 = some r) :
 Calls Try.prog 84 #[.int .i64 a0, .int .i64 a1] w fun e w' => e = .returned (.int .i64 r) ∧ Below w.heap.size w w' := by
 have HB := aj.mk (Below.refl w.heap.size w)
 have H : (if (mn (mx a1 0) 62) > 0 then (if 0 ≤ ((mn (mx a1 0) 62) - 1) then (if (Go.bits .and .u64 (IntKind.u64.wrap (a0)) (IntKind.u64.wrap ((IntKind.u64.wrap (2 ^ (mn (mx a1 0) 62).toNat)) - 1))) > (IntKind.u64.wrap (2 ^ ((mn (mx a1 0) 62) - 1).toNat)) then (some (wrap64 ((a0 / 2 ^ (mn (mx a1 0) 62).toNat) + 1))) else (if (Go.bits .and .u64 (IntKind.u64.wrap (a0)) (IntKind.u64.wrap ((IntKind.u64.wrap (2 ^ (mn (mx a1 0) 62).toNat)) - 1))) = (IntKind.u64.wrap (2 ^ ((mn (mx a1 0) 62) - 1).toNat)) then (if (Go.bits .and .i64 (a0 / 2 ^ (mn (mx a1 0) 62).toNat) 1) = 1 then (some (wrap64 ((a0 / 2 ^ (mn (mx a1 0) 62).toNat) + 1))) else (some (a0 / 2 ^ (mn (mx a1 0) 62).toNat))) else (some (a0 / 2 ^ (mn (mx a1 0) 62).toNat)))) else (none)) else (some (a0 / 2 ^ (mn (mx a1 0) 62).toNat))) = some r := h
 clear h
 obtain ⟨Ce, wP⟩ : ∃ j_ : Int, (mx a1 0) = j_ := ⟨_, rfl⟩
 replace H : (if (mn (Ce) 62) > 0 then (if 0 ≤ ((mn (Ce) 62) - 1) then (if (Go.bits .and .u64 (IntKind.u64.wrap (a0)) (IntKind.u64.wrap ((IntKind.u64.wrap (2 ^ (mn (Ce) 62).toNat)) - 1))) > (IntKind.u64.wrap (2 ^ ((mn (Ce) 62) - 1).toNat)) then (some (wrap64 ((a0 / 2 ^ (mn (Ce) 62).toNat) + 1))) else (if (Go.bits .and .u64 (IntKind.u64.wrap (a0)) (IntKind.u64.wrap ((IntKind.u64.wrap (2 ^ (mn (Ce) 62).toNat)) - 1))) = (IntKind.u64.wrap (2 ^ ((mn (Ce) 62) - 1).toNat)) then (if (Go.bits .and .i64 (a0 / 2 ^ (mn (Ce) 62).toNat) 1) = 1 then (some (wrap64 ((a0 / 2 ^ (mn (Ce) 62).toNat) + 1))) else (some (a0 / 2 ^ (mn (Ce) 62).toNat))) else (some (a0 / 2 ^ (mn (Ce) 62).toNat)))) else (none)) else (some (a0 / 2 ^ (mn (Ce) 62).toNat))) = some r := by first | (rw [wP] at H; exact H) | (simp only [wP] at H ⊢; exact H)
 (try (have aft : 0 ≤ Ce := by (rw [← wP]; unfold mx; (repeat' split) <;> omega)))
 (try (have afs : 0 ≤ Ce := by omega))
 have YJ : (if a1 < 0 then 0 else a1) = Ce := wP
 obtain ⟨rO, Hw⟩ : ∃ j_ : Int, (mn (Ce) 62) = j_ := ⟨_, rfl⟩
 replace H : (if (rO) > 0 then (if 0 ≤ ((rO) - 1) then (if (Go.bits .and .u64 (IntKind.u64.wrap (a0)) (IntKind.u64.wrap ((IntKind.u64.wrap (2 ^ (rO).toNat)) - 1))) > (IntKind.u64.wrap (2 ^ ((rO) - 1).toNat)) then (some (wrap64 ((a0 / 2 ^ (rO).toNat) + 1))) else (if (Go.bits .and .u64 (IntKind.u64.wrap (a0)) (IntKind.u64.wrap ((IntKind.u64.wrap (2 ^ (rO).toNat)) - 1))) = (IntKind.u64.wrap (2 ^ ((rO) - 1).toNat)) then (if (Go.bits .and .i64 (a0 / 2 ^ (rO).toNat) 1) = 1 then (some (wrap64 ((a0 / 2 ^ (rO).toNat) + 1))) else (some (a0 / 2 ^ (rO).toNat))) else (some (a0 / 2 ^ (rO).toNat)))) else (none)) else (some (a0 / 2 ^ (rO).toNat))) = some r := by first | (rw [Hw] at H; exact H) | (simp only [Hw] at H ⊢; exact H)
 have YI : (if 62 < (Ce) then 62 else (Ce)) = rO := Hw
 by_cases c5 : (rO) > 0
 · rw [if_pos c5] at H
   have y5 : decide (0 < (rO)) = true := decide_eq_true c5
   clear c5
   obtain ⟨xR, Og⟩ : ∃ j_ : Int, ((rO) - 1) = j_ := ⟨_, rfl⟩
   have afr : xR ≤ 61 := by
    have h := YI
    split at h <;> omega
   replace H : (if 0 ≤ (xR) then (if (Go.bits .and .u64 (IntKind.u64.wrap (a0)) (IntKind.u64.wrap ((IntKind.u64.wrap (2 ^ (rO).toNat)) - 1))) > (IntKind.u64.wrap (2 ^ (xR).toNat)) then (some (wrap64 ((a0 / 2 ^ (rO).toNat) + 1))) else (if (Go.bits .and .u64 (IntKind.u64.wrap (a0)) (IntKind.u64.wrap ((IntKind.u64.wrap (2 ^ (rO).toNat)) - 1))) = (IntKind.u64.wrap (2 ^ (xR).toNat)) then (if (Go.bits .and .i64 (a0 / 2 ^ (rO).toNat) 1) = 1 then (some (wrap64 ((a0 / 2 ^ (rO).toNat) + 1))) else (some (a0 / 2 ^ (rO).toNat))) else (some (a0 / 2 ^ (rO).toNat)))) else (none)) = some r := by first | (rw [Og] at H; exact H) | (simp only [Og] at H ⊢; exact H)
   by_cases c7 : 0 ≤ (xR)
   · rw [if_pos c7] at H
     have yc := eq_true c7
     have WU : decide (0 ≤ (xR)) = true := decide_eq_true c7
     clear c7
     by_cases c8 : (Go.bits .and .u64 (IntKind.u64.wrap (a0)) (IntKind.u64.wrap ((IntKind.u64.wrap (2 ^ (rO).toNat)) - 1))) > (IntKind.u64.wrap (2 ^ (xR).toNat))
     · rw [if_pos c8] at H
       have x_ : decide ((IntKind.u64.wrap (2 ^ (xR).toNat)) < (Go.bits .and .u64 (IntKind.u64.wrap (a0)) (IntKind.u64.wrap ((IntKind.u64.wrap (2 ^ (rO).toNat)) - 1)))) = true := decide_eq_true c8
       rw [show xR.toNat = min xR.toNat 64 by omega] at x_
       clear c8
       obtain rfl := Option.some.inj H
       go_enter Try.func84, Try.ntmps84
       go_wp2
       go_ret
       exact ⟨by first | rfl | (simp [aN, aK] <;> rfl) | (simp only [← wP, ← Hw, ← Og]; first | rfl | (simp [aN, aK] <;> rfl)) | (simp [*, aN, aK] <;> rfl), by repeat (first | (with_reducible first | exact HB.out | apply ak | apply ah | apply au) | exact HB.out)⟩
     · rw [if_neg c8] at H
       have x_ : decide ((IntKind.u64.wrap (2 ^ (xR).toNat)) < (Go.bits .and .u64 (IntKind.u64.wrap (a0)) (IntKind.u64.wrap ((IntKind.u64.wrap (2 ^ (rO).toNat)) - 1)))) = false := decide_eq_false c8
       rw [show xR.toNat = min xR.toNat 64 by omega] at x_
       clear c8
       have Iw := eq_true (of_decide_eq_true (by first | (with_reducible assumption) | assumption) : 0 ≤ (xR))
       by_cases c10 : (Go.bits .and .u64 (IntKind.u64.wrap (a0)) (IntKind.u64.wrap ((IntKind.u64.wrap (2 ^ (rO).toNat)) - 1))) = (IntKind.u64.wrap (2 ^ (xR).toNat))
       · rw [if_pos c10] at H
         have tJ : ((Go.bits .and .u64 (IntKind.u64.wrap (a0)) (IntKind.u64.wrap ((IntKind.u64.wrap (2 ^ (rO).toNat)) - 1))) == (IntKind.u64.wrap (2 ^ (xR).toNat))) = true := beq_iff_eq.mpr c10
         rw [show xR.toNat = min xR.toNat 64 by omega] at tJ
         have QN : ((Go.bits .and .u64 (IntKind.u64.wrap (a0)) (IntKind.u64.wrap ((IntKind.u64.wrap (2 ^ (rO).toNat)) - 1))) != (IntKind.u64.wrap (2 ^ (xR).toNat))) = false := bne_eq_false_iff_eq.mpr c10
         rw [show xR.toNat = min xR.toNat 64 by omega] at QN
         clear c10
         by_cases c11 : (Go.bits .and .i64 (a0 / 2 ^ (rO).toNat) 1) = 1
         · rw [if_pos c11] at H
           have BI : ((Go.bits .and .i64 (a0 / 2 ^ (rO).toNat) 1) == 1) = true := beq_iff_eq.mpr c11
           have Y8 : ((Go.bits .and .i64 (a0 / 2 ^ (rO).toNat) 1) != 1) = false := bne_eq_false_iff_eq.mpr c11
           clear c11
           obtain rfl := Option.some.inj H
           go_enter Try.func84, Try.ntmps84
           go_wp2
           go_ret
           exact ⟨by first | rfl | (simp [aN, aK] <;> rfl) | (simp only [← wP, ← Hw, ← Og]; first | rfl | (simp [aN, aK] <;> rfl)) | (simp [*, aN, aK] <;> rfl), by repeat (first | (with_reducible first | exact HB.out | apply ak | apply ah | apply au) | exact HB.out)⟩
         · rw [if_neg c11] at H
           have BI : ((Go.bits .and .i64 (a0 / 2 ^ (rO).toNat) 1) == 1) = false := beq_eq_false_iff_ne.mpr c11
           have Y8 : ((Go.bits .and .i64 (a0 / 2 ^ (rO).toNat) 1) != 1) = true := bne_iff_ne.mpr c11
           obtain rfl := Option.some.inj H
           go_enter Try.func84, Try.ntmps84
           go_wp2
           go_ret
           exact ⟨by first | rfl | (simp [aN, aK] <;> rfl) | (simp only [← wP, ← Hw, ← Og]; first | rfl | (simp [aN, aK] <;> rfl)) | (simp [*, aN, aK] <;> rfl), by repeat (first | (with_reducible first | exact HB.out | apply ak | apply ah | apply au) | exact HB.out)⟩
       · rw [if_neg c10] at H
         have tJ : ((Go.bits .and .u64 (IntKind.u64.wrap (a0)) (IntKind.u64.wrap ((IntKind.u64.wrap (2 ^ (rO).toNat)) - 1))) == (IntKind.u64.wrap (2 ^ (xR).toNat))) = false := beq_eq_false_iff_ne.mpr c10
         rw [show xR.toNat = min xR.toNat 64 by omega] at tJ
         have QN : ((Go.bits .and .u64 (IntKind.u64.wrap (a0)) (IntKind.u64.wrap ((IntKind.u64.wrap (2 ^ (rO).toNat)) - 1))) != (IntKind.u64.wrap (2 ^ (xR).toNat))) = true := bne_iff_ne.mpr c10
         rw [show xR.toNat = min xR.toNat 64 by omega] at QN
         obtain rfl := Option.some.inj H
         go_enter Try.func84, Try.ntmps84
         go_wp2
         go_ret
         exact ⟨by first | rfl | (simp [aN, aK] <;> rfl) | (simp only [← wP, ← Hw, ← Og]; first | rfl | (simp [aN, aK] <;> rfl)) | (simp [*, aN, aK] <;> rfl), by repeat (first | (with_reducible first | exact HB.out | apply ak | apply ah | apply au) | exact HB.out)⟩
   · rw [if_neg c7] at H
     exact absurd H (by simp)
 · rw [if_neg c5] at H
   have y5 : decide (0 < (rO)) = false := decide_eq_false c5
   clear c5
   obtain rfl := Option.some.inj H
   go_enter Try.func84, Try.ntmps84
   go_wp2
   go_ret
   exact ⟨by first | rfl | (simp [aN, aK] <;> rfl) | (simp only [← wP, ← Hw]; first | rfl | (simp [aN, aK] <;> rfl)) | (simp [*, aN, aK] <;> rfl), by repeat (first | (with_reducible first | exact HB.out | apply ak | apply ah | apply au) | exact HB.out)⟩
def bU.l0 : Nat → Bool → Int → Int → Int → Int → Option (Int × Bool)
 | 0, _, _, _, _, _ => none
 | k + 1, x4, x5, x6, x7, x8 => if x8 > 0 then ((bits_Mul64.f (Go.bits .or .u64 x7 x8) (Go.bits .or .u64 x7 x8)).bind fun QO => (if QO.1 < x5 then (bU.l0 k x4 x5 x6 (Go.bits .or .u64 x7 x8) (x8 / 2)) else (if QO.1 = x5 then (if QO.2 ≤ x6 then (bU.l0 k x4 x5 x6 (Go.bits .or .u64 x7 x8) (x8 / 2)) else (bU.l0 k x4 x5 x6 x7 (x8 / 2))) else (bU.l0 k x4 x5 x6 x7 (x8 / 2))))) else (some (wrap64 (x7), x4))
def bU.f (k : Nat) (a0 : Int) : Option (Int × Bool) := (bT.f a0).bind fun xk => (if xk.1 < 0 then (some (0, true)) else (bU.l0 k xk.2 ((IntKind.u64.wrap (xk.1)) / 1099511627776) (IntKind.u64.wrap ((IntKind.u64.wrap (xk.1)) * 16777216)) 0 34359738368))
theorem bU.calls (k : Nat) (a0 : Int) (r1 : Int) (r2 : Bool) (w : World) (h : bU.f k a0 = some (r1, r2)) :
 Calls Try.prog 92 #[.int .i64 a0] w fun e w' => e = .returned (.tuple #[.int .i64 r1, .bool r2]) ∧ Below w.heap.size w w' := by
 have HB := aj.mk (Below.refl w.heap.size w)
 have H : ((bT.f a0).bind fun xk => (if xk.1 < 0 then (some (0, true)) else (bU.l0 k xk.2 ((IntKind.u64.wrap (xk.1)) / 1099511627776) (IntKind.u64.wrap ((IntKind.u64.wrap (xk.1)) * 16777216)) 0 34359738368))) = some (r1, r2) := h
 clear h
 replace H := Option.bind_eq_some_iff.mp H
 obtain ⟨⟨t148, t149⟩, Vs, H⟩ := H
 replace H : (if t148 < 0 then (some (0, true)) else (bU.l0 k t149 ((IntKind.u64.wrap (t148)) / 1099511627776) (IntKind.u64.wrap ((IntKind.u64.wrap (t148)) * 16777216)) 0 34359738368)) = some (r1, r2) := H
 have A2 := aj.mk Vs
 clear Vs
 by_cases c3 : t148 < 0
 · rw [if_pos c3] at H
   have QL : decide (t148 < 0) = true := decide_eq_true c3
   clear c3
   simp only [Option.some.injEq, Prod.mk.injEq] at H
   obtain ⟨rfl, rfl⟩ := H
   go_enter Try.func92, Try.ntmps92
   go_wp2_with (first | ((with_reducible refine aF (f := 86) rfl ?_); refine a_ (some 13) rfl rfl Try.func86 (by kernel_rfl) rfl #[.int .i64 a0] rfl (by (try simp only [List.map_toArray, List.map_cons, List.map_nil]); first | done | rfl | (simp only [List.length_drop, List.length_take]; rfl)) ?_; (with_reducible refine (bT.calls a0 t148 t149 _ A2.out).mono ?_); rintro e w4 ⟨rfl, hb⟩; refine ⟨_, rfl, ?_⟩; have bF := aj.mk (aP (by repeat (first | (with_reducible first | exact HB.out | apply ak | apply ah | apply au) | exact HB.out)) hb); clear HB; have HB := bF; clear bF; (try clear hb); (try clear hb2); (try clear hk); (try clear hi)))
   go_ret2
   exact ⟨by first | rfl | (simp [aN, aK] <;> rfl) | (simp [*, aN, aK] <;> rfl), by repeat (first | (with_reducible first | exact HB.out | apply ak | apply ah | apply au) | exact HB.out)⟩
 · rw [if_neg c3] at H
   have QL : decide (t148 < 0) = false := decide_eq_false c3
   clear c3
   have H' := aj.mk H
   clear H
   go_enter Try.func92, Try.ntmps92
   go_wp2_with (first | ((with_reducible refine aF (f := 86) rfl ?_); refine a_ (some 13) rfl rfl Try.func86 (by kernel_rfl) rfl #[.int .i64 a0] rfl (by (try simp only [List.map_toArray, List.map_cons, List.map_nil]); first | done | rfl | (simp only [List.length_drop, List.length_take]; rfl)) ?_; (with_reducible refine (bT.calls a0 t148 t149 _ A2.out).mono ?_); rintro e w5 ⟨rfl, hb⟩; refine ⟨_, rfl, ?_⟩; have bF := aj.mk (aP (by repeat (first | (with_reducible first | exact HB.out | apply ak | apply ah | apply au) | exact HB.out)) hb); clear HB; have HB := bF; clear bF; (try clear hb); (try clear hb2); (try clear hk); (try clear hi)))
   go_loopg [7, 8] k (fun kq v7 v8 w' => ∃ (lY : Int) (jS : Int), v7 = .int .u64 lY ∧ v8 = .int .u64 jS ∧ aj (bU.l0 kq t149 ((IntKind.u64.wrap (t148)) / 1099511627776) (IntKind.u64.wrap ((IntKind.u64.wrap (t148)) * 16777216)) lY jS = some (r1, r2)) ∧ aj (kq ≤ k) ∧ aj (Below w.heap.size w w'))
   case atStart => exact ⟨(0), (34359738368), (by first | rfl | (simp; done) | (simp [*]; done)), (by first | rfl | (simp; done) | (simp [*]; done)), H', ⟨Nat.le_refl _⟩, ⟨by repeat (first | (with_reducible first | exact HB.out | apply ak | apply ah | apply au) | exact HB.out)⟩⟩
   case round =>
    clear H'
    try clear p2
    try clear c3
    try clear QL
    obtain ⟨lY, jS, rfl, rfl, HA, xC, HB⟩ := hrel
    cases gk with
    | zero => exact absurd HA.out (by simp [bU.l0])
    | succ k1 =>
      have H := HA.out
      clear HA
      simp only [bU.l0] at H
      by_cases c6 : jS > 0
      · rw [if_pos c6] at H
        have vS : decide (0 < jS) = true := decide_eq_true c6
        clear c6
        replace H := Option.bind_eq_some_iff.mp H
        obtain ⟨⟨t150, t151⟩, Vq, H⟩ := H
        replace H : (if t150 < ((IntKind.u64.wrap (t148)) / 1099511627776) then (bU.l0 k1 t149 ((IntKind.u64.wrap (t148)) / 1099511627776) (IntKind.u64.wrap ((IntKind.u64.wrap (t148)) * 16777216)) (Go.bits .or .u64 lY jS) (jS / 2)) else (if t150 = ((IntKind.u64.wrap (t148)) / 1099511627776) then (if t151 ≤ (IntKind.u64.wrap ((IntKind.u64.wrap (t148)) * 16777216)) then (bU.l0 k1 t149 ((IntKind.u64.wrap (t148)) / 1099511627776) (IntKind.u64.wrap ((IntKind.u64.wrap (t148)) * 16777216)) (Go.bits .or .u64 lY jS) (jS / 2)) else (bU.l0 k1 t149 ((IntKind.u64.wrap (t148)) / 1099511627776) (IntKind.u64.wrap ((IntKind.u64.wrap (t148)) * 16777216)) lY (jS / 2))) else (bU.l0 k1 t149 ((IntKind.u64.wrap (t148)) / 1099511627776) (IntKind.u64.wrap ((IntKind.u64.wrap (t148)) * 16777216)) lY (jS / 2)))) = some (r1, r2) := H
        have A7 := aj.mk Vq
        clear Vq
        by_cases c8 : t150 < ((IntKind.u64.wrap (t148)) / 1099511627776)
        · rw [if_pos c8] at H
          have x_ : decide (t150 < ((IntKind.u64.wrap (t148)) / 1099511627776)) = true := decide_eq_true c8
          clear c8
          have H' := aj.mk H
          clear H
          go_wp2_with (first | ((with_reducible refine aF (f := 96) rfl ?_); refine a_ (some 35) rfl rfl Try.func96 (by kernel_rfl) rfl #[.int .u64 (Go.bits .or .u64 lY jS), .int .u64 (Go.bits .or .u64 lY jS)] rfl (by (try simp only [List.map_toArray, List.map_cons, List.map_nil]); first | done | rfl | (simp only [List.length_drop, List.length_take]; rfl)) ?_; (with_reducible refine (bits_Mul64.calls (Go.bits .or .u64 lY jS) (Go.bits .or .u64 lY jS) t150 t151 _ A7.out).mono ?_); rintro e w' ⟨rfl, ⟨nd, rfl⟩⟩; refine ⟨_, rfl, ?_⟩))
          go_roundg k1
          case measure => have := xC.out; omega
          case rel => exact ⟨(Go.bits .or .u64 lY jS), (jS / 2), (by first | rfl | (simp; done) | (simp [*]; done)), (by first | rfl | (simp; done) | (simp [*]; done)), H', ⟨by have := xC.out; omega⟩, ⟨by repeat (first | (with_reducible first | exact HB.out | apply ak | apply ah | apply au) | exact HB.out)⟩⟩
        · rw [if_neg c8] at H
          have x_ : decide (t150 < ((IntKind.u64.wrap (t148)) / 1099511627776)) = false := decide_eq_false c8
          clear c8
          by_cases c9 : t150 = ((IntKind.u64.wrap (t148)) / 1099511627776)
          · rw [if_pos c9] at H
            have Iw : (t150 == ((IntKind.u64.wrap (t148)) / 1099511627776)) = true := beq_iff_eq.mpr c9
            have J8 : (t150 != ((IntKind.u64.wrap (t148)) / 1099511627776)) = false := bne_eq_false_iff_eq.mpr c9
            clear c9
            by_cases c10 : t151 ≤ (IntKind.u64.wrap ((IntKind.u64.wrap (t148)) * 16777216))
            · rw [if_pos c10] at H
              have tJ : decide (t151 ≤ (IntKind.u64.wrap ((IntKind.u64.wrap (t148)) * 16777216))) = true := decide_eq_true c10
              clear c10
              have H' := aj.mk H
              clear H
              go_wp2_with (first | ((with_reducible refine aF (f := 96) rfl ?_); refine a_ (some 35) rfl rfl Try.func96 (by kernel_rfl) rfl #[.int .u64 (Go.bits .or .u64 lY jS), .int .u64 (Go.bits .or .u64 lY jS)] rfl (by (try simp only [List.map_toArray, List.map_cons, List.map_nil]); first | done | rfl | (simp only [List.length_drop, List.length_take]; rfl)) ?_; (with_reducible refine (bits_Mul64.calls (Go.bits .or .u64 lY jS) (Go.bits .or .u64 lY jS) t150 t151 _ A7.out).mono ?_); rintro e w' ⟨rfl, ⟨nd, rfl⟩⟩; refine ⟨_, rfl, ?_⟩))
              go_roundg k1
              case measure => have := xC.out; omega
              case rel => exact ⟨(Go.bits .or .u64 lY jS), (jS / 2), (by first | rfl | (simp; done) | (simp [*]; done)), (by first | rfl | (simp; done) | (simp [*]; done)), H', ⟨by have := xC.out; omega⟩, ⟨by repeat (first | (with_reducible first | exact HB.out | apply ak | apply ah | apply au) | exact HB.out)⟩⟩
            · rw [if_neg c10] at H
              have tJ : decide (t151 ≤ (IntKind.u64.wrap ((IntKind.u64.wrap (t148)) * 16777216))) = false := decide_eq_false c10
              clear c10
              have H' := aj.mk H
              clear H
              go_wp2_with (first | ((with_reducible refine aF (f := 96) rfl ?_); refine a_ (some 35) rfl rfl Try.func96 (by kernel_rfl) rfl #[.int .u64 (Go.bits .or .u64 lY jS), .int .u64 (Go.bits .or .u64 lY jS)] rfl (by (try simp only [List.map_toArray, List.map_cons, List.map_nil]); first | done | rfl | (simp only [List.length_drop, List.length_take]; rfl)) ?_; (with_reducible refine (bits_Mul64.calls (Go.bits .or .u64 lY jS) (Go.bits .or .u64 lY jS) t150 t151 _ A7.out).mono ?_); rintro e w' ⟨rfl, ⟨nd, rfl⟩⟩; refine ⟨_, rfl, ?_⟩))
              go_roundg k1
              case measure => have := xC.out; omega
              case rel => exact ⟨(lY), (jS / 2), (by first | rfl | (simp; done) | (simp [*]; done)), (by first | rfl | (simp; done) | (simp [*]; done)), H', ⟨by have := xC.out; omega⟩, ⟨by repeat (first | (with_reducible first | exact HB.out | apply ak | apply ah | apply au) | exact HB.out)⟩⟩
          · rw [if_neg c9] at H
            have Iw : (t150 == ((IntKind.u64.wrap (t148)) / 1099511627776)) = false := beq_eq_false_iff_ne.mpr c9
            have J8 : (t150 != ((IntKind.u64.wrap (t148)) / 1099511627776)) = true := bne_iff_ne.mpr c9
            have H' := aj.mk H
            clear H
            go_wp2_with (first | ((with_reducible refine aF (f := 96) rfl ?_); refine a_ (some 35) rfl rfl Try.func96 (by kernel_rfl) rfl #[.int .u64 (Go.bits .or .u64 lY jS), .int .u64 (Go.bits .or .u64 lY jS)] rfl (by (try simp only [List.map_toArray, List.map_cons, List.map_nil]); first | done | rfl | (simp only [List.length_drop, List.length_take]; rfl)) ?_; (with_reducible refine (bits_Mul64.calls (Go.bits .or .u64 lY jS) (Go.bits .or .u64 lY jS) t150 t151 _ A7.out).mono ?_); rintro e w' ⟨rfl, ⟨nd, rfl⟩⟩; refine ⟨_, rfl, ?_⟩))
            go_roundg k1
            case measure => have := xC.out; omega
            case rel => exact ⟨(lY), (jS / 2), (by first | rfl | (simp; done) | (simp [*]; done)), (by first | rfl | (simp; done) | (simp [*]; done)), H', ⟨by have := xC.out; omega⟩, ⟨by repeat (first | (with_reducible first | exact HB.out | apply ak | apply ah | apply au) | exact HB.out)⟩⟩
      · rw [if_neg c6] at H
        have vS : decide (0 < jS) = false := decide_eq_false c6
        clear c6
        simp only [Option.some.injEq, Prod.mk.injEq] at H
        obtain ⟨rfl, rfl⟩ := H
        go_wp2
        go_ret2
        exact ⟨by first | rfl | (simp [aN, aK] <;> rfl) | (simp [*, aN, aK] <;> rfl), by repeat (first | (with_reducible first | exact HB.out | apply ak | apply ah | apply au) | exact HB.out)⟩
def dQ.j0 : Nat → Int → Bool → Option (Int)
 | 0, _, _ => none
 | k + 1, x2, x7 => if x7 = true then (some 9) else (if x2 ≤ 0 then (some 1) else (some 0))
def dQ.f (k : Nat) (aW : Int) (aY : Int) (aZ : List Int) (dB : Int) (dG : Int) (bW : List Int) (cZ : Int) (dn : Int) (bV : List Int) (a2 : Int) : Option (Int) := if cZ = 1 then (dQ.j0 k a2 (dn != aW)) else (dQ.j0 k a2 true)
theorem dQ.calls (k : Nat) (aW : Int) (aY : Int) (cu : Option Addr) (b_ : Nat) (aZ : List Int) (dB : Int) (dG : Int) (jC : Option Addr) (iV : Nat) (bW : List Int) (cZ : Int) (dn : Int) (gm : Option Addr) (gp : Nat) (bV : List Int) (a2 : Int) (r : Int) (w : World) (jF : Kd.C (Kd.int .i64) w cu aZ.length aZ) (kF : aZ.length ≤ b_) (Ht : Kd.C (Kd.int .i64) w jC bW.length bW) (Ie : bW.length ≤ iV) (qh : Kd.C (Kd.int .i64) w gm bV.length bV) (rF : bV.length ≤ gp) (h : dQ.f k aW aY aZ dB dG bW cZ dn bV a2 = some r) :
 Calls Try.prog 117 #[.agg #[.int .i64 aW, .int .i64 aY, .slice cu aZ.length b_, .int .i64 dB, .int .i64 dG, .slice jC bW.length iV], .agg #[.int .i64 cZ, .int .i64 dn, .slice gm bV.length gp], .int .i64 a2] w fun e w' => e = .returned (.int .i64 r) ∧ Below w.heap.size w w' := by
 have ac2 := Try.underlying33
 have JL := Try.underlying31
 have pg := aj.mk jF
 have rM := aj.mk kF
 clear jF kF
 have vG := aj.mk Ht
 have MN := aj.mk Ie
 clear Ht Ie
 have BR := aj.mk qh
 have BU := aj.mk rF
 clear qh rF
 have HB := aj.mk (Below.refl w.heap.size w)
 have H : (if cZ = 1 then (dQ.j0 k a2 (dn != aW)) else (dQ.j0 k a2 true)) = some r := h
 clear h
 have XA := aj.mk H
 clear H
 go_enter Try.func117, Try.ntmps117
 go_upto_region 1 with (first | ((with_reducible refine dS (N := 3) rfl ?_); refine dM ?hg (N := 3) ?hd (cs := #[.int .i64 aW, .int .i64 aY, .slice cu aZ.length b_, .int .i64 dB, .int .i64 dG, .slice jC bW.length iV]) (t := 33) ?hr ?_; (case hd => rfl); (case hg => rfl); (case hr => first | (go_simp; done) | (go_simp; rfl)); intro oV hg w5 hbox hb; have bF := aj.mk (aP (by repeat (first | (with_reducible first | exact HB.out | apply ak | apply ah | apply au) | exact HB.out)) hb); have dZ := aj.mk (hbox); have fE := aj.mk ((by rw [hg]; exact (bu (by repeat (first | (with_reducible first | exact HB.out | apply ak | apply ah | apply au) | exact HB.out))) : w.heap.size ≤ oV)); have gu := aj.mk ((by rw [hg]; exact (bu (by repeat (first | (with_reducible first | exact HB.out | apply ak | apply ah | apply au) | exact HB.out))) : w.heap.size ≤ oV)); clear HB; have HB := bF; have kV := dZ; have agG := fE; have yS := gu; clear bF dZ fE gu; clear hb hbox hg) | ((with_reducible refine dS (N := 4) rfl ?_); refine dM ?hg (N := 4) ?hd (cs := #[.int .i64 cZ, .int .i64 dn, .slice gm bV.length gp]) (t := 31) ?hr ?_; (case hd => rfl); (case hg => rfl); (case hr => first | (go_simp; done) | (go_simp; rfl)); intro sW hg w6 hbox hb; have bF := aj.mk (bI (g := oV) (o := .cells #[.int .i64 aW, .int .i64 aY, .slice cu aZ.length b_, .int .i64 dB, .int .i64 dG, .slice jC bW.length iV] 33 (0, 0)) (by (with_reducible repeat (first | refine aG ?_ _ | refine aJ ?_ | refine aH ?_ _)); exact kV.out) hb); have dZ := aj.mk (aP (by repeat (first | (with_reducible first | exact HB.out | apply ak | apply ah | apply au | refine aB ?_ yS.out) | exact HB.out)) hb); have fE := aj.mk (hbox); have gu := aj.mk ((by rw [hg]; exact (bu (by repeat (first | (with_reducible first | exact HB.out | apply ak | apply ah | apply au | refine aB ?_ yS.out) | exact HB.out))) : w.heap.size ≤ sW)); have lD := aj.mk ((by rw [hg]; exact (bu (by repeat (first | (with_reducible first | exact HB.out | apply ak | apply ah | apply au | refine aB ?_ yS.out) | exact HB.out))) : w.heap.size ≤ sW)); have lS := aj.mk ((by rw [hg]; exact Nat.ne_of_lt (fC (g := oV) (o := .cells #[.int .i64 aW, .int .i64 aY, .slice cu aZ.length b_, .int .i64 dB, .int .i64 dG, .slice jC bW.length iV] 33 (0, 0)) (by (with_reducible repeat (first | refine aG ?_ _ | refine aJ ?_ | refine aH ?_ _)); exact kV.out)) : oV ≠ sW)); have mO := aj.mk ((by rw [hg]; exact Nat.ne_of_gt (fC (g := oV) (o := .cells #[.int .i64 aW, .int .i64 aY, .slice cu aZ.length b_, .int .i64 dB, .int .i64 dG, .slice jC bW.length iV] 33 (0, 0)) (by (with_reducible repeat (first | refine aG ?_ _ | refine aJ ?_ | refine aH ?_ _)); exact kV.out)) : sW ≠ oV)); clear kV; clear HB; have kV := bF; have HB := dZ; have oJ := fE; have agF := gu; have IV := lD; have DU := lS; have DT := mO; clear bF dZ fE gu lD lS mO; clear hb hbox hg))
 (try simp only [Act.put, List.setIfInBounds_toArray, List.set_cons_zero, List.set_cons_succ])
 go_cut [7] (fun v7 wc => ∃ (kq : Nat) (pz : Bool), v7 = .bool pz ∧ aj (dQ.j0 kq a2 pz = some r) ∧ aj (kq ≤ k) ∧ aj (wc.heap[oV]? = some (.cells #[.int .i64 aW, .int .i64 aY, (.slice cu aZ.length b_), .int .i64 dB, .int .i64 dG, (.slice jC bW.length iV)] 33 (0, 0))) ∧ aj (wc.heap[sW]? = some (.cells #[.int .i64 cZ, .int .i64 dn, (.slice gm bV.length gp)] 31 (0, 0))) ∧ aj (Below w.heap.size w wc))
 case first =>
  have H := XA.out
  clear XA
  by_cases c7 : cZ = 1
  · rw [if_pos c7] at H
    have yc : (cZ == 1) = true := beq_iff_eq.mpr c7
    have WU : (cZ != 1) = false := bne_eq_false_iff_eq.mpr c7
    clear c7
    (first | rw [yc] | (simp only [bY, bZ]; rw [yc]) | skip)
    have H' := aj.mk H
    clear H
    have ahu := DT.out
    have ahq := DU.out
    have Ba : w6.cell? ⟨sW, 0, none⟩ = some (.int .i64 cZ) := (ay oJ.out 0).trans rfl
    have Ff : w6.cell? ⟨sW, 1, none⟩ = some (.int .i64 dn) := (ay oJ.out 1).trans rfl
    have Fe : w6.cell? ⟨sW, 2, none⟩ = some (.slice gm bV.length gp) := (ay oJ.out 2).trans rfl
    have AA := az oJ.out 0
    have ED := az oJ.out 1
    have EC := az oJ.out 2
    have qY : w6.cell? ⟨oV, 0, none⟩ = some (.int .i64 aW) := (ay kV.out 0).trans rfl
    have qX : w6.cell? ⟨oV, 1, none⟩ = some (.int .i64 aY) := (ay kV.out 1).trans rfl
    have qW : w6.cell? ⟨oV, 2, none⟩ = some (.slice cu aZ.length b_) := (ay kV.out 2).trans rfl
    have qV : w6.cell? ⟨oV, 3, none⟩ = some (.int .i64 dB) := (ay kV.out 3).trans rfl
    have qU : w6.cell? ⟨oV, 4, none⟩ = some (.int .i64 dG) := (ay kV.out 4).trans rfl
    have qR : w6.cell? ⟨oV, 5, none⟩ = some (.slice jC bW.length iV) := (ay kV.out 5).trans rfl
    have qQ := az kV.out 0
    have qP := az kV.out 1
    have qO := az kV.out 2
    have qN := az kV.out 3
    have qM := az kV.out 4
    have qL := az kV.out 5
    go_wp2
    go_meet
    case rel => exact ⟨_, ((dn != aW)), (by first | rfl | (simp; done) | (simp [*]; done)), H', ⟨by first | omega | exact Nat.le_refl _⟩, ⟨by (with_reducible repeat (first | refine aG ?_ _ | refine aJ ?_ | refine aH ?_ _)); exact kV.out⟩, ⟨by (with_reducible repeat (first | refine aG ?_ _ | refine aJ ?_ | refine aH ?_ _)); exact oJ.out⟩, ⟨by repeat (first | (with_reducible first | exact HB.out | apply ak | apply ah | apply au | refine aB ?_ yS.out | refine aB ?_ IV.out) | exact HB.out)⟩⟩
  · rw [if_neg c7] at H
    have yc : (cZ == 1) = false := beq_eq_false_iff_ne.mpr c7
    have WU : (cZ != 1) = true := bne_iff_ne.mpr c7
    (first | rw [yc] | (simp only [bY, bZ]; rw [yc]) | skip)
    have H' := aj.mk H
    clear H
    have YF := DT.out
    have YC := DU.out
    have wX : w6.cell? ⟨sW, 0, none⟩ = some (.int .i64 cZ) := (ay oJ.out 0).trans rfl
    have wW : w6.cell? ⟨sW, 1, none⟩ = some (.int .i64 dn) := (ay oJ.out 1).trans rfl
    have wV : w6.cell? ⟨sW, 2, none⟩ = some (.slice gm bV.length gp) := (ay oJ.out 2).trans rfl
    have wS := az oJ.out 0
    have wR := az oJ.out 1
    have wQ := az oJ.out 2
    go_wp2
    go_meet
    case rel => exact ⟨_, (true), (by first | rfl | (simp; done) | (simp [*]; done)), H', ⟨by first | omega | exact Nat.le_refl _⟩, ⟨by (with_reducible repeat (first | refine aG ?_ _ | refine aJ ?_ | refine aH ?_ _)); exact kV.out⟩, ⟨by (with_reducible repeat (first | refine aG ?_ _ | refine aJ ?_ | refine aH ?_ _)); exact oJ.out⟩, ⟨by repeat (first | (with_reducible first | exact HB.out | apply ak | apply ah | apply au | refine aB ?_ yS.out | refine aB ?_ IV.out) | exact HB.out)⟩⟩
 case rest =>
  clear XA
  try clear c1
  try clear p2
  try clear c7
  try clear yc
  try clear WU
  try clear c8
  try clear c11
  try clear qY
  try clear qX
  try clear qW
  try clear qV
  try clear qU
  try clear qR
  try clear wX
  try clear wW
  try clear wV
  try clear Ba
  try clear Ff
  try clear Fe
  try clear qQ
  try clear qP
  try clear qO
  try clear qN
  try clear qM
  try clear qL
  try clear wS
  try clear wR
  try clear wQ
  try clear AA
  try clear ED
  try clear EC
  obtain ⟨kq, pz, rfl, HA, HJ3, kV, oJ, HB⟩ := hcut
  cases kq with
  | zero => exact absurd HA.out (by simp [dQ.j0])
  | succ kj3 =>
    have H := HA.out
    clear HA
    simp only [dQ.j0] at H
    by_cases c13 : pz = true
    · subst c13
      rw [if_pos rfl] at H
      obtain rfl := Option.some.inj H
      go_wp2
      go_ret
      exact ⟨by first | rfl | (simp [aN, aK] <;> rfl) | (simp [*, aN, aK] <;> rfl), by repeat (first | (with_reducible first | exact HB.out | apply ak | apply ah | apply au | refine aB ?_ yS.out | refine aB ?_ IV.out) | exact HB.out)⟩
    · replace c13 := Bool.eq_false_iff.mpr c13
      subst c13
      have H1 : (if a2 ≤ 0 then (some 1) else (some 0)) = some r := by rw [if_neg (show ¬ (false = true) by decide)] at H; exact H
      clear H
      have H := H1
      clear H1
      by_cases c14 : a2 ≤ 0
      · rw [if_pos c14] at H
        have nD : decide (a2 ≤ 0) = true := decide_eq_true c14
        clear c14
        obtain rfl := Option.some.inj H
        go_wp2
        go_ret
        exact ⟨by first | rfl | (simp [aN, aK] <;> rfl) | (simp [*, aN, aK] <;> rfl), by repeat (first | (with_reducible first | exact HB.out | apply ak | apply ah | apply au | refine aB ?_ yS.out | refine aB ?_ IV.out) | exact HB.out)⟩
      · rw [if_neg c14] at H
        have nD : decide (a2 ≤ 0) = false := decide_eq_false c14
        clear c14
        obtain rfl := Option.some.inj H
        go_wp2
        go_ret
        exact ⟨by first | rfl | (simp [aN, aK] <;> rfl) | (simp [*, aN, aK] <;> rfl), by repeat (first | (with_reducible first | exact HB.out | apply ak | apply ah | apply au | refine aB ?_ yS.out | refine aB ?_ IV.out) | exact HB.out)⟩
def nC.f (aW : Int) (aY : Int) (aZ : List Int) : Option (Int × Int) := some (aW, aY)
theorem nC.calls (aW : Int) (aY : Int) (cu : Option Addr) (b_ : Nat) (aZ : List Int) (r1 : Int) (r2 : Int) (w : World) (jF : Kd.C (Kd.int .i64) w cu aZ.length aZ) (kF : aZ.length ≤ b_) (h : nC.f aW aY aZ = some (r1, r2)) :
 Calls Try.prog 107 #[.agg #[.int .i64 aW, .int .i64 aY, .slice cu aZ.length b_]] w fun e w' => e = .returned (.agg #[.int .i64 r1, .int .i64 r2]) ∧ Below w.heap.size w w' := by
 have JL := Try.underlying31
 have ae9 := Try.underlying134
 have pg := aj.mk jF
 have rM := aj.mk kF
 clear jF kF
 have HB := aj.mk (Below.refl w.heap.size w)
 have H : (some (aW, aY)) = some (r1, r2) := h
 clear h
 simp only [Option.some.injEq, Prod.mk.injEq] at H
 obtain ⟨rfl, rfl⟩ := H
 go_enter Try.func107, Try.ntmps107
 go_wp2_with (first | ((with_reducible refine dS (N := 1) rfl ?_); refine dM ?hg (N := 1) ?hd (cs := #[.int .i64 aW, .int .i64 aY, .slice cu aZ.length b_]) (t := 31) ?hr ?_; (case hd => rfl); (case hg => rfl); (case hr => first | (go_simp; done) | (go_simp; rfl)); intro vw hg w2 hbox hb; have bF := aj.mk (aP (by repeat (first | (with_reducible first | exact HB.out | apply ak | apply ah | apply au) | exact HB.out)) hb); have dZ := aj.mk (hbox); have fE := aj.mk ((by rw [hg]; exact (bu (by repeat (first | (with_reducible first | exact HB.out | apply ak | apply ah | apply au) | exact HB.out))) : w.heap.size ≤ vw)); have gu := aj.mk ((by rw [hg]; exact (bu (by repeat (first | (with_reducible first | exact HB.out | apply ak | apply ah | apply au) | exact HB.out))) : w.heap.size ≤ vw)); clear HB; have HB := bF; have uj := dZ; have agE := fE; have MO := gu; clear bF dZ fE gu; clear hb hbox hg) | ((with_reducible refine dS (N := 2) rfl ?_); refine dM ?hg (N := 2) ?hd (cs := #[.int .i64 0, .int .i64 0]) (t := 134) ?hr ?_; (case hd => rfl); (case hg => rfl); (case hr => first | (go_simp; done) | (go_simp; rfl)); intro Bv hg w3 hbox hb; have bF := aj.mk (bI (g := vw) (o := .cells #[.int .i64 aW, .int .i64 aY, .slice cu aZ.length b_] 31 (0, 0)) (by (with_reducible repeat (first | refine aG ?_ _ | refine aJ ?_ | refine aH ?_ _)); exact uj.out) hb); have dZ := aj.mk (aP (by repeat (first | (with_reducible first | exact HB.out | apply ak | apply ah | apply au | refine aB ?_ MO.out) | exact HB.out)) hb); have fE := aj.mk (hbox); have gu := aj.mk ((by rw [hg]; exact (bu (by repeat (first | (with_reducible first | exact HB.out | apply ak | apply ah | apply au | refine aB ?_ MO.out) | exact HB.out))) : w.heap.size ≤ Bv)); have lD := aj.mk ((by rw [hg]; exact (bu (by repeat (first | (with_reducible first | exact HB.out | apply ak | apply ah | apply au | refine aB ?_ MO.out) | exact HB.out))) : w.heap.size ≤ Bv)); have lS := aj.mk ((by rw [hg]; exact Nat.ne_of_lt (fC (g := vw) (o := .cells #[.int .i64 aW, .int .i64 aY, .slice cu aZ.length b_] 31 (0, 0)) (by (with_reducible repeat (first | refine aG ?_ _ | refine aJ ?_ | refine aH ?_ _)); exact uj.out)) : vw ≠ Bv)); have mO := aj.mk ((by rw [hg]; exact Nat.ne_of_gt (fC (g := vw) (o := .cells #[.int .i64 aW, .int .i64 aY, .slice cu aZ.length b_] 31 (0, 0)) (by (with_reducible repeat (first | refine aG ?_ _ | refine aJ ?_ | refine aH ?_ _)); exact uj.out)) : Bv ≠ vw)); clear uj; clear HB; have uj := bF; have HB := dZ; have IW := fE; have agD := gu; have aan := lD; have OW := lS; have OV := mO; clear bF dZ fE gu lD lS mO; clear hb hbox hg; have ahw := OW.out; have ahs := OV.out; have JW : w3.cell? ⟨vw, 0, none⟩ = some (.int .i64 aW) := (ay uj.out 0).trans rfl; have JV : w3.cell? ⟨vw, 1, none⟩ = some (.int .i64 aY) := (ay uj.out 1).trans rfl; have JU : w3.cell? ⟨vw, 2, none⟩ = some (.slice cu aZ.length b_) := (ay uj.out 2).trans rfl; have JQ := az uj.out 0; have JP := az uj.out 1; have JO := az uj.out 2; have sV : w3.cell? ⟨Bv, 0, none⟩ = some (.int .i64 0) := (ay IW.out 0).trans rfl; have sU : w3.cell? ⟨Bv, 1, none⟩ = some (.int .i64 0) := (ay IW.out 1).trans rfl; have sS := az IW.out 0; have sQ := az IW.out 1))
 refine bodyPost_ret (results_cell_row rfl _ _ Bv 134 #[.int .i64 aW, .int .i64 aY] (0, 0) _ rfl (by (with_reducible repeat (first | refine aG ?_ _ | refine aJ ?_ | refine aH ?_ _)); refine fB (cs := #[.int .i64 aW, .int .i64 0]) ?_ 1 _ rfl; (with_reducible repeat (first | refine aG ?_ _ | refine aJ ?_ | refine aH ?_ _)); refine fB (cs := #[.int .i64 0, .int .i64 0]) ?_ 0 _ rfl; (with_reducible repeat (first | refine aG ?_ _ | refine aJ ?_ | refine aH ?_ _)); exact IW.out) Try.underlying134 rfl (by kernel_rfl)) rfl ?_
 exact ⟨by first | rfl | (simp [aN, aK] <;> rfl) | (simp [*, aN, aK] <;> rfl), by repeat (first | (with_reducible first | exact HB.out | apply ak | apply ah | apply au | refine aB ?_ MO.out | refine aB ?_ aan.out) | exact HB.out)⟩
def dU.l0 : Nat → List Int → List Int → Int → Int → Option (Bool)
 | 0, _, _, _, _ => none
 | k + 1, x0, x1, x12, C_ => if C_ < x12 then (if 0 ≤ C_ then (if C_ < (x0.length : Int) then (if C_ < (x1.length : Int) then (if (rd x0 C_) = (rd x1 C_) then (dU.l0 k x0 x1 x12 (wrap64 (C_ + 1))) else (some false)) else (none)) else (none)) else (none)) else (some true)
def dU.f (k : Nat) (l0 : List Int) (l1 : List Int) : Option (Bool) := if (l0.length : Int) = (l1.length : Int) then (dU.l0 k l0 l1 (l0.length : Int) 0) else (some false)
theorem dU.calls (k : Nat) (A0 : Option Addr) (c0 : Nat) (l0 : List Int) (A1 : Option Addr) (c1 : Nat) (l1 : List Int) (r : Bool) (w : World) (hr0 : Kd.C (Kd.int .i64) w A0 l0.length l0) (hc0 : l0.length ≤ c0) (hr1 : Kd.C (Kd.int .i64) w A1 l1.length l1) (hc1 : l1.length ≤ c1) (h : dU.f k l0 l1 = some r) :
 Calls Try.prog 108 #[.slice A0 l0.length c0, .slice A1 l1.length c1] w fun e w' => e = .returned (.bool r) ∧ bH w w' := by
 have HR0 := aj.mk hr0
 have HC0 := aj.mk hc0
 clear hr0 hc0
 have HR1 := aj.mk hr1
 have HC1 := aj.mk hc1
 clear hr1 hc1
 have H : (if (l0.length : Int) = (l1.length : Int) then (dU.l0 k l0 l1 (l0.length : Int) 0) else (some false)) = some r := h
 clear h
 by_cases c3 : (l0.length : Int) = (l1.length : Int)
 · rw [if_pos c3] at H
   have QL : ((l0.length : Int) == (l1.length : Int)) = true := beq_iff_eq.mpr c3
   have YX : ((l0.length : Int) != (l1.length : Int)) = false := bne_eq_false_iff_eq.mpr c3
   have YW : (l0.length == l1.length) = true := by first | simpa using c3 | (simp at c3 ⊢; omega)
   clear c3
   have H' := aj.mk H
   clear H
   go_enter Try.func108, Try.ntmps108
   go_wp2
   repeat (go_quiet (fail); try go_wp2)
   go_loopg [13] k (fun kq v13 w' => ∃ (fM : Int), v13 = .int .i64 fM ∧ aj (dU.l0 kq l0 l1 (l0.length : Int) fM = some r) ∧ aj (kq ≤ k) ∧ bH w w')
   case atStart => exact ⟨(0), (by first | rfl | (simp; done) | (simp [*]; done)), H', ⟨Nat.le_refl _⟩, by repeat (first | exact bH.refl _ | apply bH.step)⟩
   case round =>
    clear H'
    try clear c1
    try clear p2
    try clear c3
    try clear QL
    try clear YX
    try clear YW
    obtain ⟨fM, rfl, HA, xC, ⟨m1, rfl⟩⟩ := hrel
    cases gk with
    | zero => exact absurd HA.out (by simp [dU.l0])
    | succ k1 =>
      have H := HA.out
      clear HA
      simp only [dU.l0] at H
      by_cases c4 : fM < (l0.length : Int)
      · rw [if_pos c4] at H
        have tC : decide (fM < (l0.length : Int)) = true := decide_eq_true c4
        clear c4
        by_cases c5 : 0 ≤ fM
        · rw [if_pos c5] at H
          have y5 : decide (0 ≤ fM) = true := decide_eq_true c5
          clear c5
          by_cases c6 : fM < (l0.length : Int)
          · rw [if_pos c6] at H
            have vS : decide (fM < (l0.length : Int)) = true := decide_eq_true c6
            clear c6
            by_cases c7 : fM < (l1.length : Int)
            · rw [if_pos c7] at H
              have yc : decide (fM < (l1.length : Int)) = true := decide_eq_true c7
              clear c7
              by_cases c8 : (rd l0 fM) = (rd l1 fM)
              · rw [if_pos c8] at H
                have x_ : ((rd l0 fM) == (rd l1 fM)) = true := beq_iff_eq.mpr c8
                have ad1 : ((rd l0 fM) != (rd l1 fM)) = false := bne_eq_false_iff_eq.mpr c8
                clear c8
                have H' := aj.mk H
                clear H
                have Jz : 0 ≤ (fM : Int) := of_decide_eq_true (by first | (with_reducible assumption) | assumption)
                have Js : fM < (l0.length : Int) := of_decide_eq_true (by first | (with_reducible assumption) | assumption)
                obtain ⟨Ze, WM, SH⟩ := Kd.jm HR0.out fM Jz Js
                cases WM
                replace Jz := eq_true Jz
                replace Js := eq_true Js
                have Jy : 0 ≤ (fM : Int) := of_decide_eq_true (by first | (with_reducible assumption) | assumption)
                have Jr : fM < (l1.length : Int) := of_decide_eq_true (by first | (with_reducible assumption) | assumption)
                obtain ⟨Zd, WL, SG⟩ := Kd.jm HR1.out fM Jy Jr
                cases WL
                replace Jy := eq_true Jy
                replace Jr := eq_true Jr
                go_wp2
                repeat (go_quiet (fail); try go_wp2)
                go_roundg k1
                case measure => have := xC.out; omega
                case rel => exact ⟨(wrap64 (fM + 1)), (by first | rfl | (simp; done) | (simp [*]; done)), H', ⟨by have := xC.out; omega⟩, by repeat (first | exact bH.refl _ | apply bH.step)⟩
              · rw [if_neg c8] at H
                have x_ : ((rd l0 fM) == (rd l1 fM)) = false := beq_eq_false_iff_ne.mpr c8
                have ad1 : ((rd l0 fM) != (rd l1 fM)) = true := bne_iff_ne.mpr c8
                obtain rfl := Option.some.inj H
                have Jz : 0 ≤ (fM : Int) := of_decide_eq_true (by first | (with_reducible assumption) | assumption)
                have Js : fM < (l0.length : Int) := of_decide_eq_true (by first | (with_reducible assumption) | assumption)
                obtain ⟨Ze, WM, SH⟩ := Kd.jm HR0.out fM Jz Js
                cases WM
                replace Jz := eq_true Jz
                replace Js := eq_true Js
                have Jy : 0 ≤ (fM : Int) := of_decide_eq_true (by first | (with_reducible assumption) | assumption)
                have Jr : fM < (l1.length : Int) := of_decide_eq_true (by first | (with_reducible assumption) | assumption)
                obtain ⟨Zd, WL, SG⟩ := Kd.jm HR1.out fM Jy Jr
                cases WL
                replace Jy := eq_true Jy
                replace Jr := eq_true Jr
                go_wp2
                repeat (go_quiet (fail); try go_wp2)
                go_ret
                exact ⟨by first | rfl | (simp; done) | (simp [*]; done), by repeat (first | exact bH.refl _ | apply bH.step)⟩
            · rw [if_neg c7] at H
              exact absurd H (by simp)
          · rw [if_neg c6] at H
            exact absurd H (by simp)
        · rw [if_neg c5] at H
          exact absurd H (by simp)
      · rw [if_neg c4] at H
        have tC : decide (fM < (l0.length : Int)) = false := decide_eq_false c4
        clear c4
        obtain rfl := Option.some.inj H
        go_wp2
        repeat (go_quiet (fail); try go_wp2)
        go_ret
        exact ⟨by first | rfl | (simp; done) | (simp [*]; done), by repeat (first | exact bH.refl _ | apply bH.step)⟩
 · rw [if_neg c3] at H
   have QL : ((l0.length : Int) == (l1.length : Int)) = false := beq_eq_false_iff_ne.mpr c3
   have YX : ((l0.length : Int) != (l1.length : Int)) = true := bne_iff_ne.mpr c3
   have YW : (l0.length == l1.length) = false := by first | simpa using c3 | (simp at c3 ⊢; omega)
   obtain rfl := Option.some.inj H
   go_enter Try.func108, Try.ntmps108
   go_wp2
   repeat (go_quiet (fail); try go_wp2)
   go_ret
   exact ⟨by first | rfl | (simp; done) | (simp [*]; done), by repeat (first | exact bH.refl _ | apply bH.step)⟩
end Go.Proofs.Ytnijhjbcjeohhaa.PQ

