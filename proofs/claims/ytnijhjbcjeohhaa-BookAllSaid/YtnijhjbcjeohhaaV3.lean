import Derived.Test.YtnijhjbcjeohhaaV2
/- Joined and thinned by a program of this session's own (wip/pack2.py) out of its texts (wip/ of its repo); parts were laid by its own program (wip/print-patch.py over the kit's print) out of the translation; Lean checks all. -/
set_option maxRecDepth 100000
set_option maxHeartbeats 8000000
namespace Go.Proofs.Ytnijhjbcjeohhaa.PQ
open Go.RowKit Go.Proofs.af.aA Go.Proofs.af.aN Go.Proofs.af.aP
attribute [local go_sem] gz gu jc iZ fD fC gy gq
set_option linter.unusedVariables false
set_option linter.unusedSimpArgs false
mutual
def aJ.j2 : Nat → Int → Int → Int → Int → Int → Int → Int → Int → Option (Int × Int)
 | 0, _, _, _, _, _, _, _, _ => none
 | k + 1, x2, x8, x9, x10, x11, AU, x14, x15 => if x9 = 0 then (none) else (aJ.l1 k x2 x8 x9 x10 x14 x15 (IntKind.u64.wrap ((IntKind.u64.wrap ((IntKind.u64.wrap ((IntKind.u64.wrap (x11 * 4294967296)) + AU)) - (IntKind.u64.wrap (x15 * x2)))) - (IntKind.u64.wrap ((IntKind.u64.wrap (Int.tdiv (IntKind.u64.wrap ((IntKind.u64.wrap ((IntKind.u64.wrap (x11 * 4294967296)) + AU)) - (IntKind.u64.wrap (x15 * x2)))) x9)) * x9)))) (IntKind.u64.wrap ((IntKind.u64.wrap ((IntKind.u64.wrap (x11 * 4294967296)) + AU)) - (IntKind.u64.wrap (x15 * x2)))) (IntKind.u64.wrap (Int.tdiv (IntKind.u64.wrap ((IntKind.u64.wrap ((IntKind.u64.wrap (x11 * 4294967296)) + AU)) - (IntKind.u64.wrap (x15 * x2)))) x9)))
def aJ.l1 : Nat → Int → Int → Int → Int → Int → Int → Int → Int → Int → Option (Int × Int)
 | 0, _, _, _, _, _, _, _, _, _ => none
 | k + 1, x2, x8, x9, x10, x14, x15, x16, x17, x18 => if x18 ≥ 4294967296 then (aJ.j4 k x2 x8 x9 x10 x14 x15 x16 x17 x18 true) else (aJ.j4 k x2 x8 x9 x10 x14 x15 x16 x17 x18 (decide ((IntKind.u64.wrap (x18 * x10)) > (IntKind.u64.wrap ((IntKind.u64.wrap (4294967296 * x16)) + x14)))))
def aJ.j4 : Nat → Int → Int → Int → Int → Int → Int → Int → Int → Int → Bool → Option (Int × Int)
 | 0, _, _, _, _, _, _, _, _, _, _ => none
 | k + 1, x2, x8, x9, x10, x14, x15, x16, x17, x18, x113 => if x113 = true then (if (IntKind.u64.wrap (x16 + x9)) ≥ 4294967296 then (if 0 ≤ x8 then (some (IntKind.u64.wrap ((IntKind.u64.wrap (x15 * 4294967296)) + (IntKind.u64.wrap (x18 - 1))), shr .u64 (IntKind.u64.wrap ((IntKind.u64.wrap ((IntKind.u64.wrap (x17 * 4294967296)) + x14)) - (IntKind.u64.wrap ((IntKind.u64.wrap (x18 - 1)) * x2)))) x8)) else (none)) else (aJ.l1 k x2 x8 x9 x10 x14 x15 (IntKind.u64.wrap (x16 + x9)) x17 (IntKind.u64.wrap (x18 - 1)))) else (if 0 ≤ x8 then (some (IntKind.u64.wrap ((IntKind.u64.wrap (x15 * 4294967296)) + x18), shr .u64 (IntKind.u64.wrap ((IntKind.u64.wrap ((IntKind.u64.wrap (x17 * 4294967296)) + x14)) - (IntKind.u64.wrap (x18 * x2)))) x8)) else (none))
def aJ.l0 : Nat → Int → Int → Int → Int → Int → Int → Int → Int → Int → Option (Int × Int)
 | 0, _, _, _, _, _, _, _, _, _ => none
 | k + 1, x2, x8, x9, x10, x11, AU, x14, x15, x16 => if x15 ≥ 4294967296 then (aJ.j1 k x2 x8 x9 x10 x11 AU x14 x15 x16 true) else (aJ.j1 k x2 x8 x9 x10 x11 AU x14 x15 x16 (decide ((IntKind.u64.wrap (x15 * x10)) > (IntKind.u64.wrap ((IntKind.u64.wrap (4294967296 * x16)) + AU)))))
def aJ.j1 : Nat → Int → Int → Int → Int → Int → Int → Int → Int → Int → Bool → Option (Int × Int)
 | 0, _, _, _, _, _, _, _, _, _, _ => none
 | k + 1, x2, x8, x9, x10, x11, AU, x14, x15, x16, x78 => if x78 = true then (if (IntKind.u64.wrap (x16 + x9)) ≥ 4294967296 then (aJ.j2 k x2 x8 x9 x10 x11 AU x14 (IntKind.u64.wrap (x15 - 1))) else (aJ.l0 k x2 x8 x9 x10 x11 AU x14 (IntKind.u64.wrap (x15 - 1)) (IntKind.u64.wrap (x16 + x9)))) else (aJ.j2 k x2 x8 x9 x10 x11 AU x14 x15)
end
def aJ.f (k : Nat) (a0 : Int) (a1 : Int) (a2 : Int) : Option (Int × Int) := if a2 = 0 then (none) else (if a2 ≤ a0 then (none) else (if a0 = 0 then (some (IntKind.u64.wrap (Int.tdiv a1 a2), Int.tmod a1 a2)) else ((bits_LeadingZeros64.f a2).bind fun t120 => (if 0 ≤ (IntKind.u64.wrap (t120)) then (if 0 ≤ (IntKind.u64.wrap (64 - (IntKind.u64.wrap (t120)))) then (if ((shl .u64 a2 (IntKind.u64.wrap (t120))) / 4294967296) = 0 then (none) else (aJ.l0 k (shl .u64 a2 (IntKind.u64.wrap (t120))) (IntKind.u64.wrap (t120)) ((shl .u64 a2 (IntKind.u64.wrap (t120))) / 4294967296) (Go.bits .and .u64 (shl .u64 a2 (IntKind.u64.wrap (t120))) 4294967295) (Go.bits .or .u64 (shl .u64 a0 (IntKind.u64.wrap (t120))) (shr .u64 a1 (IntKind.u64.wrap (64 - (IntKind.u64.wrap (t120)))))) ((shl .u64 a1 (IntKind.u64.wrap (t120))) / 4294967296) (Go.bits .and .u64 (shl .u64 a1 (IntKind.u64.wrap (t120))) 4294967295) (IntKind.u64.wrap (Int.tdiv (Go.bits .or .u64 (shl .u64 a0 (IntKind.u64.wrap (t120))) (shr .u64 a1 (IntKind.u64.wrap (64 - (IntKind.u64.wrap (t120)))))) ((shl .u64 a2 (IntKind.u64.wrap (t120))) / 4294967296))) (IntKind.u64.wrap ((Go.bits .or .u64 (shl .u64 a0 (IntKind.u64.wrap (t120))) (shr .u64 a1 (IntKind.u64.wrap (64 - (IntKind.u64.wrap (t120)))))) - (IntKind.u64.wrap ((IntKind.u64.wrap (Int.tdiv (Go.bits .or .u64 (shl .u64 a0 (IntKind.u64.wrap (t120))) (shr .u64 a1 (IntKind.u64.wrap (64 - (IntKind.u64.wrap (t120)))))) ((shl .u64 a2 (IntKind.u64.wrap (t120))) / 4294967296))) * ((shl .u64 a2 (IntKind.u64.wrap (t120))) / 4294967296))))))) else (none)) else (none)))))
theorem aJ.calls (k : Nat) (a0 : Int) (a1 : Int) (a2 : Int) (r1 : Int) (r2 : Int) (w : World) (h : aJ.f k a0 a1 a2 = some (r1, r2)) :
 Calls Try.prog 112 #[.int .u64 a0, .int .u64 a1, .int .u64 a2] w fun e w' => e = .returned (.tuple #[.int .u64 r1, .int .u64 r2]) ∧ bn w w' := by
 have H : (if a2 = 0 then (none) else (if a2 ≤ a0 then (none) else (if a0 = 0 then (some (IntKind.u64.wrap (Int.tdiv a1 a2), Int.tmod a1 a2)) else ((bits_LeadingZeros64.f a2).bind fun t120 => (if 0 ≤ (IntKind.u64.wrap (t120)) then (if 0 ≤ (IntKind.u64.wrap (64 - (IntKind.u64.wrap (t120)))) then (if ((shl .u64 a2 (IntKind.u64.wrap (t120))) / 4294967296) = 0 then (none) else (aJ.l0 k (shl .u64 a2 (IntKind.u64.wrap (t120))) (IntKind.u64.wrap (t120)) ((shl .u64 a2 (IntKind.u64.wrap (t120))) / 4294967296) (Go.bits .and .u64 (shl .u64 a2 (IntKind.u64.wrap (t120))) 4294967295) (Go.bits .or .u64 (shl .u64 a0 (IntKind.u64.wrap (t120))) (shr .u64 a1 (IntKind.u64.wrap (64 - (IntKind.u64.wrap (t120)))))) ((shl .u64 a1 (IntKind.u64.wrap (t120))) / 4294967296) (Go.bits .and .u64 (shl .u64 a1 (IntKind.u64.wrap (t120))) 4294967295) (IntKind.u64.wrap (Int.tdiv (Go.bits .or .u64 (shl .u64 a0 (IntKind.u64.wrap (t120))) (shr .u64 a1 (IntKind.u64.wrap (64 - (IntKind.u64.wrap (t120)))))) ((shl .u64 a2 (IntKind.u64.wrap (t120))) / 4294967296))) (IntKind.u64.wrap ((Go.bits .or .u64 (shl .u64 a0 (IntKind.u64.wrap (t120))) (shr .u64 a1 (IntKind.u64.wrap (64 - (IntKind.u64.wrap (t120)))))) - (IntKind.u64.wrap ((IntKind.u64.wrap (Int.tdiv (Go.bits .or .u64 (shl .u64 a0 (IntKind.u64.wrap (t120))) (shr .u64 a1 (IntKind.u64.wrap (64 - (IntKind.u64.wrap (t120)))))) ((shl .u64 a2 (IntKind.u64.wrap (t120))) / 4294967296))) * ((shl .u64 a2 (IntKind.u64.wrap (t120))) / 4294967296))))))) else (none)) else (none)))))) = some (r1, r2) := h
 clear h
 by_cases c4 : a2 = 0
 · rw [if_pos c4] at H
   exact absurd H (by simp)
 · rw [if_neg c4] at H
   have DR : (a2 == 0) = false := beq_eq_false_iff_ne.mpr c4
   have Ik : (a2 != 0) = true := bne_iff_ne.mpr c4
   by_cases c5 : a2 ≤ a0
   · rw [if_pos c5] at H
     exact absurd H (by simp)
   · rw [if_neg c5] at H
     have yc : decide (a2 ≤ a0) = false := decide_eq_false c5
     clear c5
     by_cases c6 : a0 = 0
     · rw [if_pos c6] at H
       have zB : (a0 == 0) = true := beq_iff_eq.mpr c6
       have LV : (a0 != 0) = false := bne_eq_false_iff_eq.mpr c6
       clear c6
       simp only [Option.some.injEq, Prod.mk.injEq] at H
       obtain ⟨rfl, rfl⟩ := H
       go_enter Try.func112, Try.ntmps112
       go_wp2
       repeat (go_quiet (fail); try go_wp2)
       go_ret2
       exact ⟨by first | rfl | (simp; done) | (simp [*]; done), by repeat (first | exact bn.refl _ | apply bn.step)⟩
     · rw [if_neg c6] at H
       have zB : (a0 == 0) = false := beq_eq_false_iff_ne.mpr c6
       have LV : (a0 != 0) = true := bne_iff_ne.mpr c6
       replace H := Option.bind_eq_some_iff.mp H
       obtain ⟨t120, Ul, H⟩ := H
       replace H : (if 0 ≤ (IntKind.u64.wrap (t120)) then (if 0 ≤ (IntKind.u64.wrap (64 - (IntKind.u64.wrap (t120)))) then (if ((shl .u64 a2 (IntKind.u64.wrap (t120))) / 4294967296) = 0 then (none) else (aJ.l0 k (shl .u64 a2 (IntKind.u64.wrap (t120))) (IntKind.u64.wrap (t120)) ((shl .u64 a2 (IntKind.u64.wrap (t120))) / 4294967296) (Go.bits .and .u64 (shl .u64 a2 (IntKind.u64.wrap (t120))) 4294967295) (Go.bits .or .u64 (shl .u64 a0 (IntKind.u64.wrap (t120))) (shr .u64 a1 (IntKind.u64.wrap (64 - (IntKind.u64.wrap (t120)))))) ((shl .u64 a1 (IntKind.u64.wrap (t120))) / 4294967296) (Go.bits .and .u64 (shl .u64 a1 (IntKind.u64.wrap (t120))) 4294967295) (IntKind.u64.wrap (Int.tdiv (Go.bits .or .u64 (shl .u64 a0 (IntKind.u64.wrap (t120))) (shr .u64 a1 (IntKind.u64.wrap (64 - (IntKind.u64.wrap (t120)))))) ((shl .u64 a2 (IntKind.u64.wrap (t120))) / 4294967296))) (IntKind.u64.wrap ((Go.bits .or .u64 (shl .u64 a0 (IntKind.u64.wrap (t120))) (shr .u64 a1 (IntKind.u64.wrap (64 - (IntKind.u64.wrap (t120)))))) - (IntKind.u64.wrap ((IntKind.u64.wrap (Int.tdiv (Go.bits .or .u64 (shl .u64 a0 (IntKind.u64.wrap (t120))) (shr .u64 a1 (IntKind.u64.wrap (64 - (IntKind.u64.wrap (t120)))))) ((shl .u64 a2 (IntKind.u64.wrap (t120))) / 4294967296))) * ((shl .u64 a2 (IntKind.u64.wrap (t120))) / 4294967296))))))) else (none)) else (none)) = some (r1, r2) := H
       have A7 := aj.mk Ul
       clear Ul
       obtain ⟨gY, NI⟩ : ∃ j_ : Int, (IntKind.u64.wrap (t120)) = j_ := ⟨_, rfl⟩
       replace H : (if 0 ≤ (gY) then (if 0 ≤ (IntKind.u64.wrap (64 - (gY))) then (if ((shl .u64 a2 (gY)) / 4294967296) = 0 then (none) else (aJ.l0 k (shl .u64 a2 (gY)) gY ((shl .u64 a2 (gY)) / 4294967296) (Go.bits .and .u64 (shl .u64 a2 (gY)) 4294967295) (Go.bits .or .u64 (shl .u64 a0 (gY)) (shr .u64 a1 (IntKind.u64.wrap (64 - (gY))))) ((shl .u64 a1 (gY)) / 4294967296) (Go.bits .and .u64 (shl .u64 a1 (gY)) 4294967295) (IntKind.u64.wrap (Int.tdiv (Go.bits .or .u64 (shl .u64 a0 (gY)) (shr .u64 a1 (IntKind.u64.wrap (64 - (gY))))) ((shl .u64 a2 (gY)) / 4294967296))) (IntKind.u64.wrap ((Go.bits .or .u64 (shl .u64 a0 (gY)) (shr .u64 a1 (IntKind.u64.wrap (64 - (gY))))) - (IntKind.u64.wrap ((IntKind.u64.wrap (Int.tdiv (Go.bits .or .u64 (shl .u64 a0 (gY)) (shr .u64 a1 (IntKind.u64.wrap (64 - (gY))))) ((shl .u64 a2 (gY)) / 4294967296))) * ((shl .u64 a2 (gY)) / 4294967296))))))) else (none)) else (none)) = some (r1, r2) := by first | (rw [NI] at H; exact H) | (simp only [NI] at H ⊢; exact H)
       (try rw [NI] at A7)
       by_cases c9 : 0 ≤ (gY)
       · rw [if_pos c9] at H
         have FV := eq_true c9
         have Ij : decide (0 ≤ (gY)) = true := decide_eq_true c9
         clear c9
         obtain ⟨cO, oh⟩ : ∃ j_ : Int, (shl .u64 a2 (gY)) = j_ := ⟨_, rfl⟩
         replace H : (if 0 ≤ (IntKind.u64.wrap (64 - (gY))) then (if ((cO) / 4294967296) = 0 then (none) else (aJ.l0 k cO gY ((cO) / 4294967296) (Go.bits .and .u64 (cO) 4294967295) (Go.bits .or .u64 (shl .u64 a0 (gY)) (shr .u64 a1 (IntKind.u64.wrap (64 - (gY))))) ((shl .u64 a1 (gY)) / 4294967296) (Go.bits .and .u64 (shl .u64 a1 (gY)) 4294967295) (IntKind.u64.wrap (Int.tdiv (Go.bits .or .u64 (shl .u64 a0 (gY)) (shr .u64 a1 (IntKind.u64.wrap (64 - (gY))))) ((cO) / 4294967296))) (IntKind.u64.wrap ((Go.bits .or .u64 (shl .u64 a0 (gY)) (shr .u64 a1 (IntKind.u64.wrap (64 - (gY))))) - (IntKind.u64.wrap ((IntKind.u64.wrap (Int.tdiv (Go.bits .or .u64 (shl .u64 a0 (gY)) (shr .u64 a1 (IntKind.u64.wrap (64 - (gY))))) ((cO) / 4294967296))) * ((cO) / 4294967296))))))) else (none)) = some (r1, r2) := by first | (rw [oh] at H; exact H) | (simp only [oh] at H ⊢; exact H)
         (try rw [oh] at A7)
         have acv : (IntKind.u64.wrap (a2 * 2 ^ min (gY).toNat 64)) = cO := oh
         have acu : (gY) ≤ 64 → (IntKind.u64.wrap (a2 * 2 ^ (gY).toNat)) = cO := wG oh
         have zD := eq_true (of_decide_eq_true (by first | (with_reducible assumption) | assumption) : 0 ≤ (gY))
         obtain ⟨iW, rV⟩ : ∃ j_ : Int, (shl .u64 a0 (gY)) = j_ := ⟨_, rfl⟩
         replace H : (if 0 ≤ (IntKind.u64.wrap (64 - (gY))) then (if ((cO) / 4294967296) = 0 then (none) else (aJ.l0 k cO gY ((cO) / 4294967296) (Go.bits .and .u64 (cO) 4294967295) (Go.bits .or .u64 (iW) (shr .u64 a1 (IntKind.u64.wrap (64 - (gY))))) ((shl .u64 a1 (gY)) / 4294967296) (Go.bits .and .u64 (shl .u64 a1 (gY)) 4294967295) (IntKind.u64.wrap (Int.tdiv (Go.bits .or .u64 (iW) (shr .u64 a1 (IntKind.u64.wrap (64 - (gY))))) ((cO) / 4294967296))) (IntKind.u64.wrap ((Go.bits .or .u64 (iW) (shr .u64 a1 (IntKind.u64.wrap (64 - (gY))))) - (IntKind.u64.wrap ((IntKind.u64.wrap (Int.tdiv (Go.bits .or .u64 (iW) (shr .u64 a1 (IntKind.u64.wrap (64 - (gY))))) ((cO) / 4294967296))) * ((cO) / 4294967296))))))) else (none)) = some (r1, r2) := by first | (rw [rV] at H; exact H) | (simp only [rV] at H ⊢; exact H)
         (try rw [rV] at A7)
         have acs : (IntKind.u64.wrap (a0 * 2 ^ min (gY).toNat 64)) = iW := rV
         have acr : (gY) ≤ 64 → (IntKind.u64.wrap (a0 * 2 ^ (gY).toNat)) = iW := wG rV
         obtain ⟨yZ, E_⟩ : ∃ j_ : Int, (IntKind.u64.wrap (64 - (gY))) = j_ := ⟨_, rfl⟩
         replace H : (if 0 ≤ (yZ) then (if ((cO) / 4294967296) = 0 then (none) else (aJ.l0 k cO gY ((cO) / 4294967296) (Go.bits .and .u64 (cO) 4294967295) (Go.bits .or .u64 (iW) (shr .u64 a1 (yZ))) ((shl .u64 a1 (gY)) / 4294967296) (Go.bits .and .u64 (shl .u64 a1 (gY)) 4294967295) (IntKind.u64.wrap (Int.tdiv (Go.bits .or .u64 (iW) (shr .u64 a1 (yZ))) ((cO) / 4294967296))) (IntKind.u64.wrap ((Go.bits .or .u64 (iW) (shr .u64 a1 (yZ))) - (IntKind.u64.wrap ((IntKind.u64.wrap (Int.tdiv (Go.bits .or .u64 (iW) (shr .u64 a1 (yZ))) ((cO) / 4294967296))) * ((cO) / 4294967296))))))) else (none)) = some (r1, r2) := by first | (rw [E_] at H; exact H) | (simp only [E_] at H ⊢; exact H)
         (try rw [E_] at A7)
         by_cases c14 : 0 ≤ (yZ)
         · rw [if_pos c14] at H
           have vT := eq_true c14
           have zC : decide (0 ≤ (yZ)) = true := decide_eq_true c14
           clear c14
           obtain ⟨kR, rU⟩ : ∃ j_ : Int, (shr .u64 a1 (yZ)) = j_ := ⟨_, rfl⟩
           replace H : (if ((cO) / 4294967296) = 0 then (none) else (aJ.l0 k cO gY ((cO) / 4294967296) (Go.bits .and .u64 (cO) 4294967295) (Go.bits .or .u64 (iW) (kR)) ((shl .u64 a1 (gY)) / 4294967296) (Go.bits .and .u64 (shl .u64 a1 (gY)) 4294967295) (IntKind.u64.wrap (Int.tdiv (Go.bits .or .u64 (iW) (kR)) ((cO) / 4294967296))) (IntKind.u64.wrap ((Go.bits .or .u64 (iW) (kR)) - (IntKind.u64.wrap ((IntKind.u64.wrap (Int.tdiv (Go.bits .or .u64 (iW) (kR)) ((cO) / 4294967296))) * ((cO) / 4294967296))))))) = some (r1, r2) := by first | (rw [rU] at H; exact H) | (simp only [rU] at H ⊢; exact H)
           (try rw [rU] at A7)
           have aco : (a1 / 2 ^ min (yZ).toNat 64) = kR := rU
           have acn : (yZ) ≤ 64 → (a1 / 2 ^ (yZ).toNat) = kR := wF rU
           have BM := eq_true (of_decide_eq_true (by first | (with_reducible assumption) | assumption) : 0 ≤ (gY))
           obtain ⟨iF, og⟩ : ∃ j_ : Int, (shl .u64 a1 (gY)) = j_ := ⟨_, rfl⟩
           replace H : (if ((cO) / 4294967296) = 0 then (none) else (aJ.l0 k cO gY ((cO) / 4294967296) (Go.bits .and .u64 (cO) 4294967295) (Go.bits .or .u64 (iW) (kR)) ((iF) / 4294967296) (Go.bits .and .u64 (iF) 4294967295) (IntKind.u64.wrap (Int.tdiv (Go.bits .or .u64 (iW) (kR)) ((cO) / 4294967296))) (IntKind.u64.wrap ((Go.bits .or .u64 (iW) (kR)) - (IntKind.u64.wrap ((IntKind.u64.wrap (Int.tdiv (Go.bits .or .u64 (iW) (kR)) ((cO) / 4294967296))) * ((cO) / 4294967296))))))) = some (r1, r2) := by first | (rw [og] at H; exact H) | (simp only [og] at H ⊢; exact H)
           (try rw [og] at A7)
           have Vb : (IntKind.u64.wrap (a1 * 2 ^ min (gY).toNat 64)) = iF := og
           have acm : (gY) ≤ 64 → (IntKind.u64.wrap (a1 * 2 ^ (gY).toNat)) = iF := wG og
           by_cases c18 : ((cO) / 4294967296) = 0
           · rw [if_pos c18] at H
             exact absurd H (by simp)
           · rw [if_neg c18] at H
             have FY : (((cO) / 4294967296) == 0) = false := beq_eq_false_iff_ne.mpr c18
             have FW : (((cO) / 4294967296) != 0) = true := bne_iff_ne.mpr c18
             have WN := aj.mk H
             clear H
             go_enter Try.func112, Try.ntmps112
             go_upto_block 0 with (first | (go_at_call 121; (with_reducible refine (bits_LeadingZeros64.calls a2 t120 _ A7.out).mono ?_); rintro e w' ⟨rfl, ⟨nd, rfl⟩⟩; (try first | exact ⟨rfl, _, World.drewN_drewN _ _ _⟩ | exact ⟨rfl, _, Eq.trans (World.drewN_drewN _ _ _) (congrArg (World.drewN _) (Nat.add_assoc _ _ _))⟩)))
             repeat (go_quiet (first | (go_at_call 121; (with_reducible refine (bits_LeadingZeros64.calls a2 t120 _ A7.out).mono ?_); rintro e w' ⟨rfl, ⟨nd, rfl⟩⟩; (try first | exact ⟨rfl, _, World.drewN_drewN _ _ _⟩ | exact ⟨rfl, _, Eq.trans (World.drewN_drewN _ _ _) (congrArg (World.drewN _) (Nat.add_assoc _ _ _))⟩))); go_upto_block 0 with (first | (go_at_call 121; (with_reducible refine (bits_LeadingZeros64.calls a2 t120 _ A7.out).mono ?_); rintro e w' ⟨rfl, ⟨nd, rfl⟩⟩; (try first | exact ⟨rfl, _, World.drewN_drewN _ _ _⟩ | exact ⟨rfl, _, Eq.trans (World.drewN_drewN _ _ _) (congrArg (World.drewN _) (Nat.add_assoc _ _ _))⟩))))
             (try simp only [Act.put, List.setIfInBounds_toArray, List.set_cons_zero, List.set_cons_succ])
             go_cut [15] (fun v15 wc => ∃ (kq : Nat) (gZ : Int), v15 = .int .u64 gZ ∧ aj (aJ.j2 kq cO gY ((cO) / 4294967296) (Go.bits .and .u64 (cO) 4294967295) (Go.bits .or .u64 (iW) (kR)) ((iF) / 4294967296) (Go.bits .and .u64 (iF) 4294967295) gZ = some (r1, r2)) ∧ aj (kq ≤ k) ∧ bn w wc)
             case first =>
              have H := WN.out
              clear WN
              have H' := aj.mk H
              clear H
              go_wp2
              repeat (go_quiet (fail); try go_wp2)
              go_loopg [15, 16] k (fun kq v15 v16 w' => ∃ (g_ : Int) (uN : Int), v15 = .int .u64 g_ ∧ v16 = .int .u64 uN ∧ aj (aJ.l0 kq cO gY ((cO) / 4294967296) (Go.bits .and .u64 (cO) 4294967295) (Go.bits .or .u64 (iW) (kR)) ((iF) / 4294967296) (Go.bits .and .u64 (iF) 4294967295) g_ uN = some (r1, r2)) ∧ aj (kq ≤ k) ∧ bn w w')
              case atStart => exact ⟨(IntKind.u64.wrap (Int.tdiv (Go.bits .or .u64 (iW) (kR)) ((cO) / 4294967296))), (IntKind.u64.wrap ((Go.bits .or .u64 (iW) (kR)) - (IntKind.u64.wrap ((IntKind.u64.wrap (Int.tdiv (Go.bits .or .u64 (iW) (kR)) ((cO) / 4294967296))) * ((cO) / 4294967296))))), (by first | rfl | (simp; done) | (simp only [← oh, ← rV, ← rU] <;> (first | rfl | simp)) | (simp [*]; done)), (by first | rfl | (simp; done) | (simp only [← oh, ← rV, ← rU] <;> (first | rfl | simp)) | (simp [*]; done)), H', ⟨Nat.le_refl _⟩, by repeat (first | exact bn.refl _ | apply bn.step)⟩
              case round =>
               clear H'
               try clear c1
               try clear p2
               try clear c4
               try clear DR
               try clear Ik
               try clear c5
               try clear yc
               try clear c6
               try clear zB
               try clear LV
               try clear c9
               try clear FV
               try clear Ij
               try clear c11
               try clear zD
               try clear c14
               try clear vT
               try clear zC
               try clear c16
               try clear BM
               try clear c18
               try clear FY
               try clear FW
               obtain ⟨g_, uN, rfl, rfl, HA, wz, ⟨m1, rfl⟩⟩ := hrel
               cases gk with
               | zero => exact absurd HA.out (by simp [aJ.l0])
               | succ k1 =>
                 have H := HA.out
                 clear HA
                 simp only [aJ.l0] at H
                 have WM := aj.mk H
                 clear H
                 go_upto_region 17 with (fail)
                 repeat (go_quiet (fail); go_upto_region 17 with (fail))
                 go_cut [78] (fun v78 wc => ∃ (kq : Nat) (CO : Bool), v78 = .bool CO ∧ aj (aJ.j1 kq cO gY ((cO) / 4294967296) (Go.bits .and .u64 (cO) 4294967295) (Go.bits .or .u64 (iW) (kR)) ((iF) / 4294967296) (Go.bits .and .u64 (iF) 4294967295) g_ uN CO = some (r1, r2)) ∧ aj (kq ≤ k1) ∧ bn w wc)
                 case first =>
                  have H := WM.out
                  clear WM
                  by_cases c21 : g_ ≥ 4294967296
                  · rw [if_pos c21] at H
                    have vS : decide (4294967296 ≤ g_) = true := decide_eq_true c21
                    clear c21
                    (first | rw [vS] | (simp only [bV, bZ]; rw [vS]) | skip)
                    have H' := aj.mk H
                    clear H
                    go_wp2
                    repeat (go_quiet (fail); try go_wp2)
                    go_meet
                    case rel => exact ⟨_, (true), (by first | rfl | (simp; done) | (simp [*]; done)), H', ⟨by have := wz.out; first | omega | exact Nat.le_refl _⟩, by repeat (first | exact bn.refl _ | apply bn.step)⟩
                  · rw [if_neg c21] at H
                    have vS : decide (4294967296 ≤ g_) = false := decide_eq_false c21
                    clear c21
                    (first | rw [vS] | (simp only [bV, bZ]; rw [vS]) | skip)
                    have H' := aj.mk H
                    clear H
                    go_wp2
                    repeat (go_quiet (fail); try go_wp2)
                    go_meet
                    case rel => exact ⟨_, (decide ((IntKind.u64.wrap (g_ * (Go.bits .and .u64 (cO) 4294967295))) > (IntKind.u64.wrap ((IntKind.u64.wrap (4294967296 * uN)) + ((iF) / 4294967296))))), (by first | rfl | (simp; done) | (simp only [← oh, ← og] <;> (first | rfl | simp)) | (simp [*]; done)), H', ⟨by have := wz.out; first | omega | exact Nat.le_refl _⟩, by repeat (first | exact bn.refl _ | apply bn.step)⟩
                 case rest =>
                  clear WM
                  try clear c1
                  try clear c2
                  try clear p2
                  try clear c4
                  try clear DR
                  try clear Ik
                  try clear c5
                  try clear yc
                  try clear c6
                  try clear zB
                  try clear LV
                  try clear c9
                  try clear FV
                  try clear Ij
                  try clear c11
                  try clear zD
                  try clear c14
                  try clear vT
                  try clear zC
                  try clear c16
                  try clear BM
                  try clear c18
                  try clear FY
                  try clear FW
                  try clear c21
                  try clear vS
                  try clear p2
                  obtain ⟨kq, CO, rfl, HA, SH, ⟨ag4, rfl⟩⟩ := hcut
                  cases kq with
                  | zero => exact absurd HA.out (by simp [aJ.j1])
                  | succ XX =>
                    have H := HA.out
                    clear HA
                    simp only [aJ.j1] at H
                    by_cases Rl : CO = true
                    · subst Rl
                      rw [if_pos rfl] at H
                      by_cases c23 : (IntKind.u64.wrap (uN + ((cO) / 4294967296))) ≥ 4294967296
                      · rw [if_pos c23] at H
                        have Jv : decide (4294967296 ≤ (IntKind.u64.wrap (uN + ((cO) / 4294967296)))) = true := decide_eq_true c23
                        clear c23
                        have H' := aj.mk H
                        clear H
                        go_wp2
                        repeat (go_quiet (fail); try go_wp2)
                        go_meet
                        case rel => exact ⟨_, (IntKind.u64.wrap (g_ - 1)), (by first | rfl | (simp; done) | (simp [*]; done)), H', ⟨by have := wz.out; have := SH.out; first | omega | exact Nat.le_refl _⟩, by repeat (first | exact bn.refl _ | apply bn.step)⟩
                      · rw [if_neg c23] at H
                        have Jv : decide (4294967296 ≤ (IntKind.u64.wrap (uN + ((cO) / 4294967296)))) = false := decide_eq_false c23
                        clear c23
                        have H' := aj.mk H
                        clear H
                        go_wp2
                        repeat (go_quiet (fail); try go_wp2)
                        go_roundg XX
                        case measure => have := wz.out; have := SH.out; omega
                        case rel => exact ⟨(IntKind.u64.wrap (g_ - 1)), (IntKind.u64.wrap (uN + ((cO) / 4294967296))), (by first | rfl | (simp; done) | (simp [*]; done)), (by first | rfl | (simp; done) | (simp only [← oh] <;> (first | rfl | simp)) | (simp [*]; done)), H', ⟨by have := wz.out; have := SH.out; omega⟩, by repeat (first | exact bn.refl _ | apply bn.step)⟩
                    · replace Rl := Bool.eq_false_iff.mpr Rl
                      subst Rl
                      have H1 : (aJ.j2 XX cO gY ((cO) / 4294967296) (Go.bits .and .u64 (cO) 4294967295) (Go.bits .or .u64 (iW) (kR)) ((iF) / 4294967296) (Go.bits .and .u64 (iF) 4294967295) g_) = some (r1, r2) := by rw [if_neg (show ¬ (false = true) by decide)] at H; exact H
                      clear H
                      have H := H1
                      clear H1
                      have H' := aj.mk H
                      clear H
                      go_wp2
                      repeat (go_quiet (fail); try go_wp2)
                      go_meet
                      case rel => exact ⟨_, (g_), (by first | rfl | (simp; done) | (simp [*]; done)), H', ⟨by have := wz.out; have := SH.out; first | omega | exact Nat.le_refl _⟩, by repeat (first | exact bn.refl _ | apply bn.step)⟩
             case rest =>
              clear WN
              try clear c1
              try clear c2
              try clear p2
              try clear c4
              try clear DR
              try clear Ik
              try clear c5
              try clear yc
              try clear c6
              try clear zB
              try clear LV
              try clear c9
              try clear FV
              try clear Ij
              try clear c11
              try clear zD
              try clear c14
              try clear vT
              try clear zC
              try clear c16
              try clear BM
              try clear c18
              try clear FY
              try clear FW
              try clear c19
              try clear c21
              try clear vS
              try clear Rl
              try clear c23
              try clear Jv
              try clear p2
              obtain ⟨kq, gZ, rfl, HA, SI, ⟨ag5, rfl⟩⟩ := hcut
              cases kq with
              | zero => exact absurd HA.out (by simp [aJ.j2])
              | succ XY =>
                have H := HA.out
                clear HA
                simp only [aJ.j2] at H
                by_cases c24 : ((cO) / 4294967296) = 0
                · rw [if_pos c24] at H
                  exact absurd H (by simp)
                · rw [if_neg c24] at H
                  have Ju : (((cO) / 4294967296) == 0) = false := beq_eq_false_iff_ne.mpr c24
                  have Jt : (((cO) / 4294967296) != 0) = true := bne_iff_ne.mpr c24
                  have H' := aj.mk H
                  clear H
                  go_wp2
                  repeat (go_quiet (fail); try go_wp2)
                  go_loopg [16, 18] XY (fun kq v16 v18 w' => ∃ (uM : Int) (kL : Int), v16 = .int .u64 uM ∧ v18 = .int .u64 kL ∧ aj (aJ.l1 kq cO gY ((cO) / 4294967296) (Go.bits .and .u64 (cO) 4294967295) (Go.bits .and .u64 (iF) 4294967295) gZ uM (IntKind.u64.wrap ((IntKind.u64.wrap ((IntKind.u64.wrap ((Go.bits .or .u64 (iW) (kR)) * 4294967296)) + ((iF) / 4294967296))) - (IntKind.u64.wrap (gZ * cO)))) kL = some (r1, r2)) ∧ aj (kq ≤ XY) ∧ bn w w')
                  case atStart => exact ⟨(IntKind.u64.wrap ((IntKind.u64.wrap ((IntKind.u64.wrap ((IntKind.u64.wrap ((Go.bits .or .u64 (iW) (kR)) * 4294967296)) + ((iF) / 4294967296))) - (IntKind.u64.wrap (gZ * cO)))) - (IntKind.u64.wrap ((IntKind.u64.wrap (Int.tdiv (IntKind.u64.wrap ((IntKind.u64.wrap ((IntKind.u64.wrap ((Go.bits .or .u64 (iW) (kR)) * 4294967296)) + ((iF) / 4294967296))) - (IntKind.u64.wrap (gZ * cO)))) ((cO) / 4294967296))) * ((cO) / 4294967296))))), (IntKind.u64.wrap (Int.tdiv (IntKind.u64.wrap ((IntKind.u64.wrap ((IntKind.u64.wrap ((Go.bits .or .u64 (iW) (kR)) * 4294967296)) + ((iF) / 4294967296))) - (IntKind.u64.wrap (gZ * cO)))) ((cO) / 4294967296))), (by first | rfl | (simp; done) | (simp only [← oh, ← rV, ← rU, ← og] <;> (first | rfl | simp)) | (simp [*]; done)), (by first | rfl | (simp; done) | (simp only [← oh, ← rV, ← rU, ← og] <;> (first | rfl | simp)) | (simp [*]; done)), H', ⟨Nat.le_refl _⟩, by repeat (first | exact bn.refl _ | apply bn.step)⟩
                  case round =>
                   clear H'
                   try clear c1
                   try clear c2
                   try clear p2
                   try clear c4
                   try clear DR
                   try clear Ik
                   try clear c5
                   try clear yc
                   try clear c6
                   try clear zB
                   try clear LV
                   try clear c9
                   try clear FV
                   try clear Ij
                   try clear c11
                   try clear zD
                   try clear c14
                   try clear vT
                   try clear zC
                   try clear c16
                   try clear BM
                   try clear c18
                   try clear FY
                   try clear FW
                   try clear c19
                   try clear c21
                   try clear vS
                   try clear Rl
                   try clear c23
                   try clear Jv
                   try clear c24
                   try clear Ju
                   try clear Jt
                   try clear p2
                   obtain ⟨uM, kL, rfl, rfl, HA, WC, ⟨m2, rfl⟩⟩ := hrel
                   cases gk with
                   | zero => exact absurd HA.out (by simp [aJ.l1])
                   | succ k2 =>
                     have H := HA.out
                     clear HA
                     simp only [aJ.l1] at H
                     have WL := aj.mk H
                     clear H
                     go_upto_region 24 with (fail)
                     repeat (go_quiet (fail); go_upto_region 24 with (fail))
                     go_cut [113] (fun abN wc => ∃ (kq : Nat) (yl : Bool), abN = .bool yl ∧ aj (aJ.j4 kq cO gY ((cO) / 4294967296) (Go.bits .and .u64 (cO) 4294967295) (Go.bits .and .u64 (iF) 4294967295) gZ uM (IntKind.u64.wrap ((IntKind.u64.wrap ((IntKind.u64.wrap ((Go.bits .or .u64 (iW) (kR)) * 4294967296)) + ((iF) / 4294967296))) - (IntKind.u64.wrap (gZ * cO)))) kL yl = some (r1, r2)) ∧ aj (kq ≤ k2) ∧ bn w wc)
                     case first =>
                      have H := WL.out
                      clear WL
                      by_cases VS : kL ≥ 4294967296
                      · rw [if_pos VS] at H
                        have BL : decide (4294967296 ≤ kL) = true := decide_eq_true VS
                        clear VS
                        (first | rw [BL] | (simp only [bV, bZ]; rw [BL]) | skip)
                        have H' := aj.mk H
                        clear H
                        go_wp2
                        repeat (go_quiet (fail); try go_wp2)
                        go_meet
                        case rel => exact ⟨_, (true), (by first | rfl | (simp; done) | (simp [*]; done)), H', ⟨by have := SI.out; have := WC.out; first | omega | exact Nat.le_refl _⟩, by repeat (first | exact bn.refl _ | apply bn.step)⟩
                      · rw [if_neg VS] at H
                        have BL : decide (4294967296 ≤ kL) = false := decide_eq_false VS
                        clear VS
                        (first | rw [BL] | (simp only [bV, bZ]; rw [BL]) | skip)
                        have H' := aj.mk H
                        clear H
                        go_wp2
                        repeat (go_quiet (fail); try go_wp2)
                        go_meet
                        case rel => exact ⟨_, (decide ((IntKind.u64.wrap (kL * (Go.bits .and .u64 (cO) 4294967295))) > (IntKind.u64.wrap ((IntKind.u64.wrap (4294967296 * uM)) + (Go.bits .and .u64 (iF) 4294967295))))), (by first | rfl | (simp; done) | (simp only [← oh, ← og] <;> (first | rfl | simp)) | (simp [*]; done)), H', ⟨by have := SI.out; have := WC.out; first | omega | exact Nat.le_refl _⟩, by repeat (first | exact bn.refl _ | apply bn.step)⟩
                     case rest =>
                      clear WL
                      try clear c1
                      try clear c2
                      try clear p2
                      try clear c4
                      try clear DR
                      try clear Ik
                      try clear c5
                      try clear yc
                      try clear c6
                      try clear zB
                      try clear LV
                      try clear c9
                      try clear FV
                      try clear Ij
                      try clear c11
                      try clear zD
                      try clear c14
                      try clear vT
                      try clear zC
                      try clear c16
                      try clear BM
                      try clear c18
                      try clear FY
                      try clear FW
                      try clear c19
                      try clear c21
                      try clear vS
                      try clear Rl
                      try clear c23
                      try clear Jv
                      try clear c24
                      try clear Ju
                      try clear Jt
                      try clear VS
                      try clear BL
                      try clear p2
                      obtain ⟨kq, yl, rfl, HA, ZQ, ⟨ag3, rfl⟩⟩ := hcut
                      cases kq with
                      | zero => exact absurd HA.out (by simp [aJ.j4])
                      | succ abV =>
                        have H := HA.out
                        clear HA
                        simp only [aJ.j4] at H
                        by_cases Rj : yl = true
                        · subst Rj
                          rw [if_pos rfl] at H
                          by_cases c28 : (IntKind.u64.wrap (uM + ((cO) / 4294967296))) ≥ 4294967296
                          · rw [if_pos c28] at H
                            have Yz : decide (4294967296 ≤ (IntKind.u64.wrap (uM + ((cO) / 4294967296)))) = true := decide_eq_true c28
                            clear c28
                            by_cases c29 : 0 ≤ gY
                            · rw [if_pos c29] at H
                              have afh := eq_true c29
                              have afg : decide (0 ≤ gY) = true := decide_eq_true c29
                              clear c29
                              obtain ⟨UU, E8⟩ : ∃ j_ : Int, (shr .u64 (IntKind.u64.wrap ((IntKind.u64.wrap ((IntKind.u64.wrap ((IntKind.u64.wrap ((IntKind.u64.wrap ((IntKind.u64.wrap ((Go.bits .or .u64 (iW) (kR)) * 4294967296)) + ((iF) / 4294967296))) - (IntKind.u64.wrap (gZ * cO)))) * 4294967296)) + (Go.bits .and .u64 (iF) 4294967295))) - (IntKind.u64.wrap ((IntKind.u64.wrap (kL - 1)) * cO)))) gY) = j_ := ⟨_, rfl⟩
                              replace H : (some (IntKind.u64.wrap ((IntKind.u64.wrap (gZ * 4294967296)) + (IntKind.u64.wrap (kL - 1))), UU)) = some (r1, r2) := by first | (rw [E8] at H; exact H) | (simp only [E8] at H ⊢; exact H)
                              have ack : ((IntKind.u64.wrap ((IntKind.u64.wrap ((IntKind.u64.wrap ((IntKind.u64.wrap ((IntKind.u64.wrap ((IntKind.u64.wrap ((Go.bits .or .u64 (iW) (kR)) * 4294967296)) + ((iF) / 4294967296))) - (IntKind.u64.wrap (gZ * cO)))) * 4294967296)) + (Go.bits .and .u64 (iF) 4294967295))) - (IntKind.u64.wrap ((IntKind.u64.wrap (kL - 1)) * cO)))) / 2 ^ min gY.toNat 64) = UU := E8
                              have acj : gY ≤ 64 → ((IntKind.u64.wrap ((IntKind.u64.wrap ((IntKind.u64.wrap ((IntKind.u64.wrap ((IntKind.u64.wrap ((IntKind.u64.wrap ((Go.bits .or .u64 (iW) (kR)) * 4294967296)) + ((iF) / 4294967296))) - (IntKind.u64.wrap (gZ * cO)))) * 4294967296)) + (Go.bits .and .u64 (iF) 4294967295))) - (IntKind.u64.wrap ((IntKind.u64.wrap (kL - 1)) * cO)))) / 2 ^ gY.toNat) = UU := wF E8
                              simp only [Option.some.injEq, Prod.mk.injEq] at H
                              obtain ⟨rfl, rfl⟩ := H
                              go_wp2
                              repeat (go_quiet (fail); try go_wp2)
                              go_ret2
                              exact ⟨by first | rfl | (simp; done) | (simp only [← NI, ← oh, ← rV, ← E_, ← rU, ← og, ← E8] <;> (first | rfl | simp)) | (simp [*]; done), by repeat (first | exact bn.refl _ | apply bn.step)⟩
                            · rw [if_neg c29] at H
                              exact absurd H (by simp)
                          · rw [if_neg c28] at H
                            have Yz : decide (4294967296 ≤ (IntKind.u64.wrap (uM + ((cO) / 4294967296)))) = false := decide_eq_false c28
                            clear c28
                            have H' := aj.mk H
                            clear H
                            go_wp2
                            repeat (go_quiet (fail); try go_wp2)
                            go_roundg abV
                            case measure => have := SI.out; have := WC.out; have := ZQ.out; omega
                            case rel => exact ⟨(IntKind.u64.wrap (uM + ((cO) / 4294967296))), (IntKind.u64.wrap (kL - 1)), (by first | rfl | (simp; done) | (simp only [← oh] <;> (first | rfl | simp)) | (simp [*]; done)), (by first | rfl | (simp; done) | (simp [*]; done)), H', ⟨by have := SI.out; have := WC.out; have := ZQ.out; omega⟩, by repeat (first | exact bn.refl _ | apply bn.step)⟩
                        · replace Rj := Bool.eq_false_iff.mpr Rj
                          subst Rj
                          have H1 : (if 0 ≤ gY then (some (IntKind.u64.wrap ((IntKind.u64.wrap (gZ * 4294967296)) + kL), shr .u64 (IntKind.u64.wrap ((IntKind.u64.wrap ((IntKind.u64.wrap ((IntKind.u64.wrap ((IntKind.u64.wrap ((IntKind.u64.wrap ((Go.bits .or .u64 (iW) (kR)) * 4294967296)) + ((iF) / 4294967296))) - (IntKind.u64.wrap (gZ * cO)))) * 4294967296)) + (Go.bits .and .u64 (iF) 4294967295))) - (IntKind.u64.wrap (kL * cO)))) gY)) else (none)) = some (r1, r2) := by rw [if_neg (show ¬ (false = true) by decide)] at H; exact H
                          clear H
                          have H := H1
                          clear H1
                          by_cases c31 : 0 ≤ gY
                          · rw [if_pos c31] at H
                            have aff := eq_true c31
                            have afe : decide (0 ≤ gY) = true := decide_eq_true c31
                            clear c31
                            obtain ⟨UR, E5⟩ : ∃ j_ : Int, (shr .u64 (IntKind.u64.wrap ((IntKind.u64.wrap ((IntKind.u64.wrap ((IntKind.u64.wrap ((IntKind.u64.wrap ((IntKind.u64.wrap ((Go.bits .or .u64 (iW) (kR)) * 4294967296)) + ((iF) / 4294967296))) - (IntKind.u64.wrap (gZ * cO)))) * 4294967296)) + (Go.bits .and .u64 (iF) 4294967295))) - (IntKind.u64.wrap (kL * cO)))) gY) = j_ := ⟨_, rfl⟩
                            replace H : (some (IntKind.u64.wrap ((IntKind.u64.wrap (gZ * 4294967296)) + kL), UR)) = some (r1, r2) := by first | (rw [E5] at H; exact H) | (simp only [E5] at H ⊢; exact H)
                            have aci : ((IntKind.u64.wrap ((IntKind.u64.wrap ((IntKind.u64.wrap ((IntKind.u64.wrap ((IntKind.u64.wrap ((IntKind.u64.wrap ((Go.bits .or .u64 (iW) (kR)) * 4294967296)) + ((iF) / 4294967296))) - (IntKind.u64.wrap (gZ * cO)))) * 4294967296)) + (Go.bits .and .u64 (iF) 4294967295))) - (IntKind.u64.wrap (kL * cO)))) / 2 ^ min gY.toNat 64) = UR := E5
                            have ach : gY ≤ 64 → ((IntKind.u64.wrap ((IntKind.u64.wrap ((IntKind.u64.wrap ((IntKind.u64.wrap ((IntKind.u64.wrap ((IntKind.u64.wrap ((Go.bits .or .u64 (iW) (kR)) * 4294967296)) + ((iF) / 4294967296))) - (IntKind.u64.wrap (gZ * cO)))) * 4294967296)) + (Go.bits .and .u64 (iF) 4294967295))) - (IntKind.u64.wrap (kL * cO)))) / 2 ^ gY.toNat) = UR := wF E5
                            simp only [Option.some.injEq, Prod.mk.injEq] at H
                            obtain ⟨rfl, rfl⟩ := H
                            go_wp2
                            repeat (go_quiet (fail); try go_wp2)
                            go_ret2
                            exact ⟨by first | rfl | (simp; done) | (simp only [← NI, ← oh, ← rV, ← E_, ← rU, ← og, ← E5] <;> (first | rfl | simp)) | (simp [*]; done), by repeat (first | exact bn.refl _ | apply bn.step)⟩
                          · rw [if_neg c31] at H
                            exact absurd H (by simp)
         · rw [if_neg c14] at H
           exact absurd H (by simp)
       · rw [if_neg c9] at H
         exact absurd H (by simp)
def kM.f (k : Nat) (a0 : Int) (a1 : Int) : Option (Int × Bool) := (bg.f a0 a1).bind fun dZ => (if dZ.2.1 = 0 then (if dZ.1 > 0 then (some (70368744177663, true)) else (if dZ.1 < 0 then (some ((-70368744177664), true)) else (some (0, true)))) else ((aV.f dZ.1).bind fun t124 => ((aV.f dZ.2.1).bind fun t125 => (if (t124 / 1099511627776) ≥ t125 then ((aO.f 1 0 ((decide (dZ.1 < 0)) != (decide (dZ.2.1 < 0)))).bind fun vW => (some (vW.1, true))) else ((aJ.f k (t124 / 1099511627776) (IntKind.u64.wrap (t124 * 16777216)) t125).bind fun dL => (if dL.2 > (IntKind.u64.wrap (t125 - dL.2)) then ((aO.f 0 (IntKind.u64.wrap (dL.1 + 1)) ((decide (dZ.1 < 0)) != (decide (dZ.2.1 < 0)))).bind fun jw => (if dZ.2.2 = true then (some (jw.1, true)) else (some (jw.1, jw.2)))) else (if dL.2 = (IntKind.u64.wrap (t125 - dL.2)) then (if (Go.bits .and .u64 dL.1 1) = 1 then ((aO.f 0 (IntKind.u64.wrap (dL.1 + 1)) ((decide (dZ.1 < 0)) != (decide (dZ.2.1 < 0)))).bind fun jv => (if dZ.2.2 = true then (some (jv.1, true)) else (some (jv.1, jv.2)))) else ((aO.f 0 dL.1 ((decide (dZ.1 < 0)) != (decide (dZ.2.1 < 0)))).bind fun jr => (if dZ.2.2 = true then (some (jr.1, true)) else (some (jr.1, jr.2))))) else ((aO.f 0 dL.1 ((decide (dZ.1 < 0)) != (decide (dZ.2.1 < 0)))).bind fun jq => (if dZ.2.2 = true then (some (jq.1, true)) else (some (jq.1, jq.2)))))))))))
theorem kM.calls (k : Nat) (a0 : Int) (a1 : Int) (r1 : Int) (r2 : Bool) (w : World) (h : kM.f k a0 a1 = some (r1, r2)) :
 Calls Try.prog 93 #[.int .i64 a0, .int .i64 a1] w fun e w' => e = .returned (.tuple #[.int .i64 r1, .bool r2]) ∧ Below w.heap.size w w' := by
 have HB := aj.mk (Below.refl w.heap.size w)
 have H : ((bg.f a0 a1).bind fun dZ => (if dZ.2.1 = 0 then (if dZ.1 > 0 then (some (70368744177663, true)) else (if dZ.1 < 0 then (some ((-70368744177664), true)) else (some (0, true)))) else ((aV.f dZ.1).bind fun t124 => ((aV.f dZ.2.1).bind fun t125 => (if (t124 / 1099511627776) ≥ t125 then ((aO.f 1 0 ((decide (dZ.1 < 0)) != (decide (dZ.2.1 < 0)))).bind fun vW => (some (vW.1, true))) else ((aJ.f k (t124 / 1099511627776) (IntKind.u64.wrap (t124 * 16777216)) t125).bind fun dL => (if dL.2 > (IntKind.u64.wrap (t125 - dL.2)) then ((aO.f 0 (IntKind.u64.wrap (dL.1 + 1)) ((decide (dZ.1 < 0)) != (decide (dZ.2.1 < 0)))).bind fun jw => (if dZ.2.2 = true then (some (jw.1, true)) else (some (jw.1, jw.2)))) else (if dL.2 = (IntKind.u64.wrap (t125 - dL.2)) then (if (Go.bits .and .u64 dL.1 1) = 1 then ((aO.f 0 (IntKind.u64.wrap (dL.1 + 1)) ((decide (dZ.1 < 0)) != (decide (dZ.2.1 < 0)))).bind fun jv => (if dZ.2.2 = true then (some (jv.1, true)) else (some (jv.1, jv.2)))) else ((aO.f 0 dL.1 ((decide (dZ.1 < 0)) != (decide (dZ.2.1 < 0)))).bind fun jr => (if dZ.2.2 = true then (some (jr.1, true)) else (some (jr.1, jr.2))))) else ((aO.f 0 dL.1 ((decide (dZ.1 < 0)) != (decide (dZ.2.1 < 0)))).bind fun jq => (if dZ.2.2 = true then (some (jq.1, true)) else (some (jq.1, jq.2)))))))))))) = some (r1, r2) := h
 clear h
 replace H := Option.bind_eq_some_iff.mp H
 obtain ⟨⟨t121, t122, t123⟩, CJ, H⟩ := H
 replace H : (if t122 = 0 then (if t121 > 0 then (some (70368744177663, true)) else (if t121 < 0 then (some ((-70368744177664), true)) else (some (0, true)))) else ((aV.f t121).bind fun t124 => ((aV.f t122).bind fun t125 => (if (t124 / 1099511627776) ≥ t125 then ((aO.f 1 0 ((decide (t121 < 0)) != (decide (t122 < 0)))).bind fun vW => (some (vW.1, true))) else ((aJ.f k (t124 / 1099511627776) (IntKind.u64.wrap (t124 * 16777216)) t125).bind fun dL => (if dL.2 > (IntKind.u64.wrap (t125 - dL.2)) then ((aO.f 0 (IntKind.u64.wrap (dL.1 + 1)) ((decide (t121 < 0)) != (decide (t122 < 0)))).bind fun jw => (if t123 = true then (some (jw.1, true)) else (some (jw.1, jw.2)))) else (if dL.2 = (IntKind.u64.wrap (t125 - dL.2)) then (if (Go.bits .and .u64 dL.1 1) = 1 then ((aO.f 0 (IntKind.u64.wrap (dL.1 + 1)) ((decide (t121 < 0)) != (decide (t122 < 0)))).bind fun jv => (if t123 = true then (some (jv.1, true)) else (some (jv.1, jv.2)))) else ((aO.f 0 dL.1 ((decide (t121 < 0)) != (decide (t122 < 0)))).bind fun jr => (if t123 = true then (some (jr.1, true)) else (some (jr.1, jr.2))))) else ((aO.f 0 dL.1 ((decide (t121 < 0)) != (decide (t122 < 0)))).bind fun jq => (if t123 = true then (some (jq.1, true)) else (some (jq.1, jq.2))))))))))) = some (r1, r2) := H
 have A3 := aj.mk CJ
 clear CJ
 by_cases c4 : t122 = 0
 · rw [if_pos c4] at H
   have DR : (t122 == 0) = true := beq_iff_eq.mpr c4
   have Ik : (t122 != 0) = false := bne_eq_false_iff_eq.mpr c4
   clear c4
   by_cases c5 : t121 > 0
   · rw [if_pos c5] at H
     have yc : decide (0 < t121) = true := decide_eq_true c5
     clear c5
     simp only [Option.some.injEq, Prod.mk.injEq] at H
     obtain ⟨rfl, rfl⟩ := H
     go_enter Try.func93, Try.ntmps93
     go_wp2_with (first | ((with_reducible refine az (f := 95) rfl ?_); refine aT (some 21) rfl rfl Try.func95 (by kernel_rfl) rfl #[.int .i64 a0, .int .i64 a1] rfl (by (try simp only [List.map_toArray, List.map_cons, List.map_nil]); first | done | rfl | (simp only [List.length_drop, List.length_take]; rfl)) ?_; (with_reducible refine (bg.calls a0 a1 t121 t122 t123 _ A3.out).mono ?_); rintro e w6 ⟨rfl, hb⟩; refine ⟨_, rfl, ?_⟩; have bu := aj.mk (aQ (by repeat (first | (with_reducible first | exact HB.out | apply ak | apply ah | apply au) | exact HB.out)) hb); clear HB; have HB := bu; clear bu; (try clear hb); (try clear hb2); (try clear hk); (try clear hi)))
     go_ret2
     exact ⟨by first | rfl | (simp [aI, aH] <;> rfl) | (simp [*, aI, aH] <;> rfl), by repeat (first | (with_reducible first | exact HB.out | apply ak | apply ah | apply au) | exact HB.out)⟩
   · rw [if_neg c5] at H
     have yc : decide (0 < t121) = false := decide_eq_false c5
     clear c5
     by_cases c7 : t121 < 0
     · rw [if_pos c7] at H
       have wX : decide (t121 < 0) = true := decide_eq_true c7
       clear c7
       simp only [Option.some.injEq, Prod.mk.injEq] at H
       obtain ⟨rfl, rfl⟩ := H
       go_enter Try.func93, Try.ntmps93
       go_wp2_with (first | ((with_reducible refine az (f := 95) rfl ?_); refine aT (some 21) rfl rfl Try.func95 (by kernel_rfl) rfl #[.int .i64 a0, .int .i64 a1] rfl (by (try simp only [List.map_toArray, List.map_cons, List.map_nil]); first | done | rfl | (simp only [List.length_drop, List.length_take]; rfl)) ?_; (with_reducible refine (bg.calls a0 a1 t121 t122 t123 _ A3.out).mono ?_); rintro e w8 ⟨rfl, hb⟩; refine ⟨_, rfl, ?_⟩; have bu := aj.mk (aQ (by repeat (first | (with_reducible first | exact HB.out | apply ak | apply ah | apply au) | exact HB.out)) hb); clear HB; have HB := bu; clear bu; (try clear hb); (try clear hb2); (try clear hk); (try clear hi)))
       go_ret2
       exact ⟨by first | rfl | (simp [aI, aH] <;> rfl) | (simp [*, aI, aH] <;> rfl), by repeat (first | (with_reducible first | exact HB.out | apply ak | apply ah | apply au) | exact HB.out)⟩
     · rw [if_neg c7] at H
       have wX : decide (t121 < 0) = false := decide_eq_false c7
       clear c7
       simp only [Option.some.injEq, Prod.mk.injEq] at H
       obtain ⟨rfl, rfl⟩ := H
       go_enter Try.func93, Try.ntmps93
       go_wp2_with (first | ((with_reducible refine az (f := 95) rfl ?_); refine aT (some 21) rfl rfl Try.func95 (by kernel_rfl) rfl #[.int .i64 a0, .int .i64 a1] rfl (by (try simp only [List.map_toArray, List.map_cons, List.map_nil]); first | done | rfl | (simp only [List.length_drop, List.length_take]; rfl)) ?_; (with_reducible refine (bg.calls a0 a1 t121 t122 t123 _ A3.out).mono ?_); rintro e w9 ⟨rfl, hb⟩; refine ⟨_, rfl, ?_⟩; have bu := aj.mk (aQ (by repeat (first | (with_reducible first | exact HB.out | apply ak | apply ah | apply au) | exact HB.out)) hb); clear HB; have HB := bu; clear bu; (try clear hb); (try clear hb2); (try clear hk); (try clear hi)))
       go_ret2
       exact ⟨by first | rfl | (simp [aI, aH] <;> rfl) | (simp [*, aI, aH] <;> rfl), by repeat (first | (with_reducible first | exact HB.out | apply ak | apply ah | apply au) | exact HB.out)⟩
 · rw [if_neg c4] at H
   have DR : (t122 == 0) = false := beq_eq_false_iff_ne.mpr c4
   have Ik : (t122 != 0) = true := bne_iff_ne.mpr c4
   replace H := Option.bind_eq_some_iff.mp H
   obtain ⟨t124, aan, H⟩ := H
   replace H : ((aV.f t122).bind fun t125 => (if (t124 / 1099511627776) ≥ t125 then ((aO.f 1 0 ((decide (t121 < 0)) != (decide (t122 < 0)))).bind fun vW => (some (vW.1, true))) else ((aJ.f k (t124 / 1099511627776) (IntKind.u64.wrap (t124 * 16777216)) t125).bind fun dL => (if dL.2 > (IntKind.u64.wrap (t125 - dL.2)) then ((aO.f 0 (IntKind.u64.wrap (dL.1 + 1)) ((decide (t121 < 0)) != (decide (t122 < 0)))).bind fun jw => (if t123 = true then (some (jw.1, true)) else (some (jw.1, jw.2)))) else (if dL.2 = (IntKind.u64.wrap (t125 - dL.2)) then (if (Go.bits .and .u64 dL.1 1) = 1 then ((aO.f 0 (IntKind.u64.wrap (dL.1 + 1)) ((decide (t121 < 0)) != (decide (t122 < 0)))).bind fun jv => (if t123 = true then (some (jv.1, true)) else (some (jv.1, jv.2)))) else ((aO.f 0 dL.1 ((decide (t121 < 0)) != (decide (t122 < 0)))).bind fun jr => (if t123 = true then (some (jr.1, true)) else (some (jr.1, jr.2))))) else ((aO.f 0 dL.1 ((decide (t121 < 0)) != (decide (t122 < 0)))).bind fun jq => (if t123 = true then (some (jq.1, true)) else (some (jq.1, jq.2))))))))) = some (r1, r2) := H
   have SQ := aj.mk aan
   clear aan
   replace H := Option.bind_eq_some_iff.mp H
   obtain ⟨t125, aam, H⟩ := H
   replace H : (if (t124 / 1099511627776) ≥ t125 then ((aO.f 1 0 ((decide (t121 < 0)) != (decide (t122 < 0)))).bind fun vW => (some (vW.1, true))) else ((aJ.f k (t124 / 1099511627776) (IntKind.u64.wrap (t124 * 16777216)) t125).bind fun dL => (if dL.2 > (IntKind.u64.wrap (t125 - dL.2)) then ((aO.f 0 (IntKind.u64.wrap (dL.1 + 1)) ((decide (t121 < 0)) != (decide (t122 < 0)))).bind fun jw => (if t123 = true then (some (jw.1, true)) else (some (jw.1, jw.2)))) else (if dL.2 = (IntKind.u64.wrap (t125 - dL.2)) then (if (Go.bits .and .u64 dL.1 1) = 1 then ((aO.f 0 (IntKind.u64.wrap (dL.1 + 1)) ((decide (t121 < 0)) != (decide (t122 < 0)))).bind fun jv => (if t123 = true then (some (jv.1, true)) else (some (jv.1, jv.2)))) else ((aO.f 0 dL.1 ((decide (t121 < 0)) != (decide (t122 < 0)))).bind fun jr => (if t123 = true then (some (jr.1, true)) else (some (jr.1, jr.2))))) else ((aO.f 0 dL.1 ((decide (t121 < 0)) != (decide (t122 < 0)))).bind fun jq => (if t123 = true then (some (jq.1, true)) else (some (jq.1, jq.2)))))))) = some (r1, r2) := H
   have SN := aj.mk aam
   clear aam
   by_cases c12 : (t124 / 1099511627776) ≥ t125
   · rw [if_pos c12] at H
     have YF : decide (t125 ≤ (t124 / 1099511627776)) = true := decide_eq_true c12
     clear c12
     replace H := Option.bind_eq_some_iff.mp H
     obtain ⟨⟨t126, t127⟩, aal, H⟩ := H
     replace H : (some (t126, true)) = some (r1, r2) := H
     have A13 := aj.mk aal
     clear aal
     simp only [Option.some.injEq, Prod.mk.injEq] at H
     obtain ⟨rfl, rfl⟩ := H
     go_enter Try.func93, Try.ntmps93
     go_wp2_with (first | ((with_reducible refine az (f := 95) rfl ?_); refine aT (some 21) rfl rfl Try.func95 (by kernel_rfl) rfl #[.int .i64 a0, .int .i64 a1] rfl (by (try simp only [List.map_toArray, List.map_cons, List.map_nil]); first | done | rfl | (simp only [List.length_drop, List.length_take]; rfl)) ?_; (with_reducible refine (bg.calls a0 a1 t121 t122 t123 _ A3.out).mono ?_); rintro e Xr ⟨rfl, hb⟩; refine ⟨_, rfl, ?_⟩; have bu := aj.mk (aQ (by repeat (first | (with_reducible first | exact HB.out | apply ak | apply ah | apply au) | exact HB.out)) hb); clear HB; have HB := bu; clear bu; (try clear hb); (try clear hb2); (try clear hk); (try clear hi)) | ((with_reducible refine az (f := 97) rfl ?_); refine aT (some 39) rfl rfl Try.func97 (by kernel_rfl) rfl #[.int .i64 t121] rfl (by (try simp only [List.map_toArray, List.map_cons, List.map_nil]); first | done | rfl | (simp only [List.length_drop, List.length_take]; rfl)) ?_; (with_reducible refine (aV.calls t121 t124 _ SQ.out).mono ?_); rintro e w' ⟨rfl, ⟨nd, rfl⟩⟩; refine ⟨_, rfl, ?_⟩) | ((with_reducible refine az (f := 97) rfl ?_); refine aT (some 41) rfl rfl Try.func97 (by kernel_rfl) rfl #[.int .i64 t122] rfl (by (try simp only [List.map_toArray, List.map_cons, List.map_nil]); first | done | rfl | (simp only [List.length_drop, List.length_take]; rfl)) ?_; (with_reducible refine (aV.calls t122 t125 _ SN.out).mono ?_); rintro e w' ⟨rfl, ⟨nd, rfl⟩⟩; refine ⟨_, rfl, ?_⟩) | ((with_reducible refine az (f := 98) rfl ?_); refine aT (some 51) rfl rfl Try.func98 (by kernel_rfl) rfl #[.int .u64 1, .int .u64 0, .bool ((decide (t121 < 0)) != (decide (t122 < 0)))] rfl (by (try simp only [List.map_toArray, List.map_cons, List.map_nil]); first | done | rfl | (simp only [List.length_drop, List.length_take]; rfl)) ?_; (with_reducible refine (aO.calls 1 0 ((decide (t121 < 0)) != (decide (t122 < 0))) t126 t127 _ A13.out).mono ?_); rintro e w15 ⟨rfl, hb⟩; refine ⟨_, rfl, ?_⟩; have bu := aj.mk (aQ (by repeat (first | (with_reducible first | exact HB.out | apply ak | apply ah | apply au) | exact HB.out)) hb); clear HB; have HB := bu; clear bu; (try clear hb); (try clear hb2); (try clear hk); (try clear hi)))
     go_ret2
     exact ⟨by first | rfl | (simp [aI, aH] <;> rfl) | (simp [*, aI, aH] <;> rfl), by repeat (first | (with_reducible first | exact HB.out | apply ak | apply ah | apply au) | exact HB.out)⟩
   · rw [if_neg c12] at H
     have YF : decide (t125 ≤ (t124 / 1099511627776)) = false := decide_eq_false c12
     clear c12
     replace H := Option.bind_eq_some_iff.mp H
     obtain ⟨⟨t128, t129⟩, PS, H⟩ := H
     replace H : (if t129 > (IntKind.u64.wrap (t125 - t129)) then ((aO.f 0 (IntKind.u64.wrap (t128 + 1)) ((decide (t121 < 0)) != (decide (t122 < 0)))).bind fun jw => (if t123 = true then (some (jw.1, true)) else (some (jw.1, jw.2)))) else (if t129 = (IntKind.u64.wrap (t125 - t129)) then (if (Go.bits .and .u64 t128 1) = 1 then ((aO.f 0 (IntKind.u64.wrap (t128 + 1)) ((decide (t121 < 0)) != (decide (t122 < 0)))).bind fun jv => (if t123 = true then (some (jv.1, true)) else (some (jv.1, jv.2)))) else ((aO.f 0 t128 ((decide (t121 < 0)) != (decide (t122 < 0)))).bind fun jr => (if t123 = true then (some (jr.1, true)) else (some (jr.1, jr.2))))) else ((aO.f 0 t128 ((decide (t121 < 0)) != (decide (t122 < 0)))).bind fun jq => (if t123 = true then (some (jq.1, true)) else (some (jq.1, jq.2)))))) = some (r1, r2) := H
     have PT := aj.mk PS
     clear PS
     by_cases c17 : t129 > (IntKind.u64.wrap (t125 - t129))
     · rw [if_pos c17] at H
       have YC : decide ((IntKind.u64.wrap (t125 - t129)) < t129) = true := decide_eq_true c17
       clear c17
       replace H := Option.bind_eq_some_iff.mp H
       obtain ⟨⟨t130, t131⟩, aak, H⟩ := H
       replace H : (if t123 = true then (some (t130, true)) else (some (t130, t131))) = some (r1, r2) := H
       have IW := aj.mk aak
       clear aak
       by_cases c19 : t123 = true
       · subst c19
         rw [if_pos rfl] at H
         simp only [Option.some.injEq, Prod.mk.injEq] at H
         obtain ⟨rfl, rfl⟩ := H
         go_enter Try.func93, Try.ntmps93
         go_wp2_with (first | ((with_reducible refine az (f := 95) rfl ?_); refine aT (some 21) rfl rfl Try.func95 (by kernel_rfl) rfl #[.int .i64 a0, .int .i64 a1] rfl (by (try simp only [List.map_toArray, List.map_cons, List.map_nil]); first | done | rfl | (simp only [List.length_drop, List.length_take]; rfl)) ?_; (with_reducible refine (bg.calls a0 a1 t121 t122 true _ A3.out).mono ?_); rintro e w20 ⟨rfl, hb⟩; refine ⟨_, rfl, ?_⟩; have bu := aj.mk (aQ (by repeat (first | (with_reducible first | exact HB.out | apply ak | apply ah | apply au) | exact HB.out)) hb); clear HB; have HB := bu; clear bu; (try clear hb); (try clear hb2); (try clear hk); (try clear hi)) | ((with_reducible refine az (f := 97) rfl ?_); refine aT (some 39) rfl rfl Try.func97 (by kernel_rfl) rfl #[.int .i64 t121] rfl (by (try simp only [List.map_toArray, List.map_cons, List.map_nil]); first | done | rfl | (simp only [List.length_drop, List.length_take]; rfl)) ?_; (with_reducible refine (aV.calls t121 t124 _ SQ.out).mono ?_); rintro e w' ⟨rfl, ⟨nd, rfl⟩⟩; refine ⟨_, rfl, ?_⟩) | ((with_reducible refine az (f := 97) rfl ?_); refine aT (some 41) rfl rfl Try.func97 (by kernel_rfl) rfl #[.int .i64 t122] rfl (by (try simp only [List.map_toArray, List.map_cons, List.map_nil]); first | done | rfl | (simp only [List.length_drop, List.length_take]; rfl)) ?_; (with_reducible refine (aV.calls t122 t125 _ SN.out).mono ?_); rintro e w' ⟨rfl, ⟨nd, rfl⟩⟩; refine ⟨_, rfl, ?_⟩) | ((with_reducible refine az (f := 112) rfl ?_); refine aT (some 59) rfl rfl Try.func112 (by kernel_rfl) rfl #[.int .u64 (t124 / 1099511627776), .int .u64 (IntKind.u64.wrap (t124 * 16777216)), .int .u64 t125] rfl (by (try simp only [List.map_toArray, List.map_cons, List.map_nil]); first | done | rfl | (simp only [List.length_drop, List.length_take]; rfl)) ?_; (with_reducible refine (aJ.calls k (t124 / 1099511627776) (IntKind.u64.wrap (t124 * 16777216)) t125 t128 t129 _ PT.out).mono ?_); rintro e w' ⟨rfl, ⟨nd, rfl⟩⟩; refine ⟨_, rfl, ?_⟩) | ((with_reducible refine az (f := 98) rfl ?_); refine aT (some 84) rfl rfl Try.func98 (by kernel_rfl) rfl #[.int .u64 0, .int .u64 (IntKind.u64.wrap (t128 + 1)), .bool ((decide (t121 < 0)) != (decide (t122 < 0)))] rfl (by (try simp only [List.map_toArray, List.map_cons, List.map_nil]); first | done | rfl | (simp only [List.length_drop, List.length_take]; rfl)) ?_; (with_reducible refine (aO.calls 0 (IntKind.u64.wrap (t128 + 1)) ((decide (t121 < 0)) != (decide (t122 < 0))) t130 t131 _ IW.out).mono ?_); rintro e SV ⟨rfl, hb⟩; refine ⟨_, rfl, ?_⟩; have bu := aj.mk (aQ (by repeat (first | (with_reducible first | exact HB.out | apply ak | apply ah | apply au) | exact HB.out)) hb); clear HB; have HB := bu; clear bu; (try clear hb); (try clear hb2); (try clear hk); (try clear hi)))
         go_ret2
         exact ⟨by first | rfl | (simp [aI, aH] <;> rfl) | (simp [*, aI, aH] <;> rfl), by repeat (first | (with_reducible first | exact HB.out | apply ak | apply ah | apply au) | exact HB.out)⟩
       · replace c19 := Bool.eq_false_iff.mpr c19
         subst c19
         have H1 : (some (t130, t131)) = some (r1, r2) := by rw [if_neg (show ¬ (false = true) by decide)] at H; exact H
         clear H
         have H := H1
         clear H1
         simp only [Option.some.injEq, Prod.mk.injEq] at H
         obtain ⟨rfl, rfl⟩ := H
         go_enter Try.func93, Try.ntmps93
         go_wp2_with (first | ((with_reducible refine az (f := 95) rfl ?_); refine aT (some 21) rfl rfl Try.func95 (by kernel_rfl) rfl #[.int .i64 a0, .int .i64 a1] rfl (by (try simp only [List.map_toArray, List.map_cons, List.map_nil]); first | done | rfl | (simp only [List.length_drop, List.length_take]; rfl)) ?_; (with_reducible refine (bg.calls a0 a1 t121 t122 false _ A3.out).mono ?_); rintro e w22 ⟨rfl, hb⟩; refine ⟨_, rfl, ?_⟩; have bu := aj.mk (aQ (by repeat (first | (with_reducible first | exact HB.out | apply ak | apply ah | apply au) | exact HB.out)) hb); clear HB; have HB := bu; clear bu; (try clear hb); (try clear hb2); (try clear hk); (try clear hi)) | ((with_reducible refine az (f := 97) rfl ?_); refine aT (some 39) rfl rfl Try.func97 (by kernel_rfl) rfl #[.int .i64 t121] rfl (by (try simp only [List.map_toArray, List.map_cons, List.map_nil]); first | done | rfl | (simp only [List.length_drop, List.length_take]; rfl)) ?_; (with_reducible refine (aV.calls t121 t124 _ SQ.out).mono ?_); rintro e w' ⟨rfl, ⟨nd, rfl⟩⟩; refine ⟨_, rfl, ?_⟩) | ((with_reducible refine az (f := 97) rfl ?_); refine aT (some 41) rfl rfl Try.func97 (by kernel_rfl) rfl #[.int .i64 t122] rfl (by (try simp only [List.map_toArray, List.map_cons, List.map_nil]); first | done | rfl | (simp only [List.length_drop, List.length_take]; rfl)) ?_; (with_reducible refine (aV.calls t122 t125 _ SN.out).mono ?_); rintro e w' ⟨rfl, ⟨nd, rfl⟩⟩; refine ⟨_, rfl, ?_⟩) | ((with_reducible refine az (f := 112) rfl ?_); refine aT (some 59) rfl rfl Try.func112 (by kernel_rfl) rfl #[.int .u64 (t124 / 1099511627776), .int .u64 (IntKind.u64.wrap (t124 * 16777216)), .int .u64 t125] rfl (by (try simp only [List.map_toArray, List.map_cons, List.map_nil]); first | done | rfl | (simp only [List.length_drop, List.length_take]; rfl)) ?_; (with_reducible refine (aJ.calls k (t124 / 1099511627776) (IntKind.u64.wrap (t124 * 16777216)) t125 t128 t129 _ PT.out).mono ?_); rintro e w' ⟨rfl, ⟨nd, rfl⟩⟩; refine ⟨_, rfl, ?_⟩) | ((with_reducible refine az (f := 98) rfl ?_); refine aT (some 84) rfl rfl Try.func98 (by kernel_rfl) rfl #[.int .u64 0, .int .u64 (IntKind.u64.wrap (t128 + 1)), .bool ((decide (t121 < 0)) != (decide (t122 < 0)))] rfl (by (try simp only [List.map_toArray, List.map_cons, List.map_nil]); first | done | rfl | (simp only [List.length_drop, List.length_take]; rfl)) ?_; (with_reducible refine (aO.calls 0 (IntKind.u64.wrap (t128 + 1)) ((decide (t121 < 0)) != (decide (t122 < 0))) t130 t131 _ IW.out).mono ?_); rintro e w23 ⟨rfl, hb⟩; refine ⟨_, rfl, ?_⟩; have bu := aj.mk (aQ (by repeat (first | (with_reducible first | exact HB.out | apply ak | apply ah | apply au) | exact HB.out)) hb); clear HB; have HB := bu; clear bu; (try clear hb); (try clear hb2); (try clear hk); (try clear hi)))
         go_ret2
         exact ⟨by first | rfl | (simp [aI, aH] <;> rfl) | (simp [*, aI, aH] <;> rfl), by repeat (first | (with_reducible first | exact HB.out | apply ak | apply ah | apply au) | exact HB.out)⟩
     · rw [if_neg c17] at H
       have YC : decide ((IntKind.u64.wrap (t125 - t129)) < t129) = false := decide_eq_false c17
       clear c17
       by_cases c24 : t129 = (IntKind.u64.wrap (t125 - t129))
       · rw [if_pos c24] at H
         have Ju : (t129 == (IntKind.u64.wrap (t125 - t129))) = true := beq_iff_eq.mpr c24
         have Jt : (t129 != (IntKind.u64.wrap (t125 - t129))) = false := bne_eq_false_iff_eq.mpr c24
         clear c24
         by_cases c25 : (Go.bits .and .u64 t128 1) = 1
         · rw [if_pos c25] at H
           have YB : ((Go.bits .and .u64 t128 1) == 1) = true := beq_iff_eq.mpr c25
           have YA : ((Go.bits .and .u64 t128 1) != 1) = false := bne_eq_false_iff_eq.mpr c25
           clear c25
           replace H := Option.bind_eq_some_iff.mp H
           obtain ⟨⟨t132, t133⟩, aah, H⟩ := H
           replace H : (if t123 = true then (some (t132, true)) else (some (t132, t133))) = some (r1, r2) := H
           have A26 := aj.mk aah
           clear aah
           by_cases Rj : t123 = true
           · subst Rj
             rw [if_pos rfl] at H
             simp only [Option.some.injEq, Prod.mk.injEq] at H
             obtain ⟨rfl, rfl⟩ := H
             go_enter Try.func93, Try.ntmps93
             go_wp2_with (first | ((with_reducible refine az (f := 95) rfl ?_); refine aT (some 21) rfl rfl Try.func95 (by kernel_rfl) rfl #[.int .i64 a0, .int .i64 a1] rfl (by (try simp only [List.map_toArray, List.map_cons, List.map_nil]); first | done | rfl | (simp only [List.length_drop, List.length_take]; rfl)) ?_; (with_reducible refine (bg.calls a0 a1 t121 t122 true _ A3.out).mono ?_); rintro e w28 ⟨rfl, hb⟩; refine ⟨_, rfl, ?_⟩; have bu := aj.mk (aQ (by repeat (first | (with_reducible first | exact HB.out | apply ak | apply ah | apply au) | exact HB.out)) hb); clear HB; have HB := bu; clear bu; (try clear hb); (try clear hb2); (try clear hk); (try clear hi)) | ((with_reducible refine az (f := 97) rfl ?_); refine aT (some 39) rfl rfl Try.func97 (by kernel_rfl) rfl #[.int .i64 t121] rfl (by (try simp only [List.map_toArray, List.map_cons, List.map_nil]); first | done | rfl | (simp only [List.length_drop, List.length_take]; rfl)) ?_; (with_reducible refine (aV.calls t121 t124 _ SQ.out).mono ?_); rintro e w' ⟨rfl, ⟨nd, rfl⟩⟩; refine ⟨_, rfl, ?_⟩) | ((with_reducible refine az (f := 97) rfl ?_); refine aT (some 41) rfl rfl Try.func97 (by kernel_rfl) rfl #[.int .i64 t122] rfl (by (try simp only [List.map_toArray, List.map_cons, List.map_nil]); first | done | rfl | (simp only [List.length_drop, List.length_take]; rfl)) ?_; (with_reducible refine (aV.calls t122 t125 _ SN.out).mono ?_); rintro e w' ⟨rfl, ⟨nd, rfl⟩⟩; refine ⟨_, rfl, ?_⟩) | ((with_reducible refine az (f := 112) rfl ?_); refine aT (some 59) rfl rfl Try.func112 (by kernel_rfl) rfl #[.int .u64 (t124 / 1099511627776), .int .u64 (IntKind.u64.wrap (t124 * 16777216)), .int .u64 t125] rfl (by (try simp only [List.map_toArray, List.map_cons, List.map_nil]); first | done | rfl | (simp only [List.length_drop, List.length_take]; rfl)) ?_; (with_reducible refine (aJ.calls k (t124 / 1099511627776) (IntKind.u64.wrap (t124 * 16777216)) t125 t128 t129 _ PT.out).mono ?_); rintro e w' ⟨rfl, ⟨nd, rfl⟩⟩; refine ⟨_, rfl, ?_⟩) | ((with_reducible refine az (f := 98) rfl ?_); refine aT (some 84) rfl rfl Try.func98 (by kernel_rfl) rfl #[.int .u64 0, .int .u64 (IntKind.u64.wrap (t128 + 1)), .bool ((decide (t121 < 0)) != (decide (t122 < 0)))] rfl (by (try simp only [List.map_toArray, List.map_cons, List.map_nil]); first | done | rfl | (simp only [List.length_drop, List.length_take]; rfl)) ?_; (with_reducible refine (aO.calls 0 (IntKind.u64.wrap (t128 + 1)) ((decide (t121 < 0)) != (decide (t122 < 0))) t132 t133 _ A26.out).mono ?_); rintro e w29 ⟨rfl, hb⟩; refine ⟨_, rfl, ?_⟩; have bu := aj.mk (aQ (by repeat (first | (with_reducible first | exact HB.out | apply ak | apply ah | apply au) | exact HB.out)) hb); clear HB; have HB := bu; clear bu; (try clear hb); (try clear hb2); (try clear hk); (try clear hi)))
             go_ret2
             exact ⟨by first | rfl | (simp [aI, aH] <;> rfl) | (simp [*, aI, aH] <;> rfl), by repeat (first | (with_reducible first | exact HB.out | apply ak | apply ah | apply au) | exact HB.out)⟩
           · replace Rj := Bool.eq_false_iff.mpr Rj
             subst Rj
             have H1 : (some (t132, t133)) = some (r1, r2) := by rw [if_neg (show ¬ (false = true) by decide)] at H; exact H
             clear H
             have H := H1
             clear H1
             simp only [Option.some.injEq, Prod.mk.injEq] at H
             obtain ⟨rfl, rfl⟩ := H
             go_enter Try.func93, Try.ntmps93
             go_wp2_with (first | ((with_reducible refine az (f := 95) rfl ?_); refine aT (some 21) rfl rfl Try.func95 (by kernel_rfl) rfl #[.int .i64 a0, .int .i64 a1] rfl (by (try simp only [List.map_toArray, List.map_cons, List.map_nil]); first | done | rfl | (simp only [List.length_drop, List.length_take]; rfl)) ?_; (with_reducible refine (bg.calls a0 a1 t121 t122 false _ A3.out).mono ?_); rintro e w30 ⟨rfl, hb⟩; refine ⟨_, rfl, ?_⟩; have bu := aj.mk (aQ (by repeat (first | (with_reducible first | exact HB.out | apply ak | apply ah | apply au) | exact HB.out)) hb); clear HB; have HB := bu; clear bu; (try clear hb); (try clear hb2); (try clear hk); (try clear hi)) | ((with_reducible refine az (f := 97) rfl ?_); refine aT (some 39) rfl rfl Try.func97 (by kernel_rfl) rfl #[.int .i64 t121] rfl (by (try simp only [List.map_toArray, List.map_cons, List.map_nil]); first | done | rfl | (simp only [List.length_drop, List.length_take]; rfl)) ?_; (with_reducible refine (aV.calls t121 t124 _ SQ.out).mono ?_); rintro e w' ⟨rfl, ⟨nd, rfl⟩⟩; refine ⟨_, rfl, ?_⟩) | ((with_reducible refine az (f := 97) rfl ?_); refine aT (some 41) rfl rfl Try.func97 (by kernel_rfl) rfl #[.int .i64 t122] rfl (by (try simp only [List.map_toArray, List.map_cons, List.map_nil]); first | done | rfl | (simp only [List.length_drop, List.length_take]; rfl)) ?_; (with_reducible refine (aV.calls t122 t125 _ SN.out).mono ?_); rintro e w' ⟨rfl, ⟨nd, rfl⟩⟩; refine ⟨_, rfl, ?_⟩) | ((with_reducible refine az (f := 112) rfl ?_); refine aT (some 59) rfl rfl Try.func112 (by kernel_rfl) rfl #[.int .u64 (t124 / 1099511627776), .int .u64 (IntKind.u64.wrap (t124 * 16777216)), .int .u64 t125] rfl (by (try simp only [List.map_toArray, List.map_cons, List.map_nil]); first | done | rfl | (simp only [List.length_drop, List.length_take]; rfl)) ?_; (with_reducible refine (aJ.calls k (t124 / 1099511627776) (IntKind.u64.wrap (t124 * 16777216)) t125 t128 t129 _ PT.out).mono ?_); rintro e w' ⟨rfl, ⟨nd, rfl⟩⟩; refine ⟨_, rfl, ?_⟩) | ((with_reducible refine az (f := 98) rfl ?_); refine aT (some 84) rfl rfl Try.func98 (by kernel_rfl) rfl #[.int .u64 0, .int .u64 (IntKind.u64.wrap (t128 + 1)), .bool ((decide (t121 < 0)) != (decide (t122 < 0)))] rfl (by (try simp only [List.map_toArray, List.map_cons, List.map_nil]); first | done | rfl | (simp only [List.length_drop, List.length_take]; rfl)) ?_; (with_reducible refine (aO.calls 0 (IntKind.u64.wrap (t128 + 1)) ((decide (t121 < 0)) != (decide (t122 < 0))) t132 t133 _ A26.out).mono ?_); rintro e w31 ⟨rfl, hb⟩; refine ⟨_, rfl, ?_⟩; have bu := aj.mk (aQ (by repeat (first | (with_reducible first | exact HB.out | apply ak | apply ah | apply au) | exact HB.out)) hb); clear HB; have HB := bu; clear bu; (try clear hb); (try clear hb2); (try clear hk); (try clear hi)))
             go_ret2
             exact ⟨by first | rfl | (simp [aI, aH] <;> rfl) | (simp [*, aI, aH] <;> rfl), by repeat (first | (with_reducible first | exact HB.out | apply ak | apply ah | apply au) | exact HB.out)⟩
         · rw [if_neg c25] at H
           have YB : ((Go.bits .and .u64 t128 1) == 1) = false := beq_eq_false_iff_ne.mpr c25
           have YA : ((Go.bits .and .u64 t128 1) != 1) = true := bne_iff_ne.mpr c25
           replace H := Option.bind_eq_some_iff.mp H
           obtain ⟨⟨t134, t135⟩, aaf, H⟩ := H
           replace H : (if t123 = true then (some (t134, true)) else (some (t134, t135))) = some (r1, r2) := H
           have A32 := aj.mk aaf
           clear aaf
           by_cases c33 : t123 = true
           · subst c33
             rw [if_pos rfl] at H
             simp only [Option.some.injEq, Prod.mk.injEq] at H
             obtain ⟨rfl, rfl⟩ := H
             go_enter Try.func93, Try.ntmps93
             go_wp2_with (first | ((with_reducible refine az (f := 95) rfl ?_); refine aT (some 21) rfl rfl Try.func95 (by kernel_rfl) rfl #[.int .i64 a0, .int .i64 a1] rfl (by (try simp only [List.map_toArray, List.map_cons, List.map_nil]); first | done | rfl | (simp only [List.length_drop, List.length_take]; rfl)) ?_; (with_reducible refine (bg.calls a0 a1 t121 t122 true _ A3.out).mono ?_); rintro e w34 ⟨rfl, hb⟩; refine ⟨_, rfl, ?_⟩; have bu := aj.mk (aQ (by repeat (first | (with_reducible first | exact HB.out | apply ak | apply ah | apply au) | exact HB.out)) hb); clear HB; have HB := bu; clear bu; (try clear hb); (try clear hb2); (try clear hk); (try clear hi)) | ((with_reducible refine az (f := 97) rfl ?_); refine aT (some 39) rfl rfl Try.func97 (by kernel_rfl) rfl #[.int .i64 t121] rfl (by (try simp only [List.map_toArray, List.map_cons, List.map_nil]); first | done | rfl | (simp only [List.length_drop, List.length_take]; rfl)) ?_; (with_reducible refine (aV.calls t121 t124 _ SQ.out).mono ?_); rintro e w' ⟨rfl, ⟨nd, rfl⟩⟩; refine ⟨_, rfl, ?_⟩) | ((with_reducible refine az (f := 97) rfl ?_); refine aT (some 41) rfl rfl Try.func97 (by kernel_rfl) rfl #[.int .i64 t122] rfl (by (try simp only [List.map_toArray, List.map_cons, List.map_nil]); first | done | rfl | (simp only [List.length_drop, List.length_take]; rfl)) ?_; (with_reducible refine (aV.calls t122 t125 _ SN.out).mono ?_); rintro e w' ⟨rfl, ⟨nd, rfl⟩⟩; refine ⟨_, rfl, ?_⟩) | ((with_reducible refine az (f := 112) rfl ?_); refine aT (some 59) rfl rfl Try.func112 (by kernel_rfl) rfl #[.int .u64 (t124 / 1099511627776), .int .u64 (IntKind.u64.wrap (t124 * 16777216)), .int .u64 t125] rfl (by (try simp only [List.map_toArray, List.map_cons, List.map_nil]); first | done | rfl | (simp only [List.length_drop, List.length_take]; rfl)) ?_; (with_reducible refine (aJ.calls k (t124 / 1099511627776) (IntKind.u64.wrap (t124 * 16777216)) t125 t128 t129 _ PT.out).mono ?_); rintro e w' ⟨rfl, ⟨nd, rfl⟩⟩; refine ⟨_, rfl, ?_⟩) | ((with_reducible refine az (f := 98) rfl ?_); refine aT (some 84) rfl rfl Try.func98 (by kernel_rfl) rfl #[.int .u64 0, .int .u64 t128, .bool ((decide (t121 < 0)) != (decide (t122 < 0)))] rfl (by (try simp only [List.map_toArray, List.map_cons, List.map_nil]); first | done | rfl | (simp only [List.length_drop, List.length_take]; rfl)) ?_; (with_reducible refine (aO.calls 0 t128 ((decide (t121 < 0)) != (decide (t122 < 0))) t134 t135 _ A32.out).mono ?_); rintro e w35 ⟨rfl, hb⟩; refine ⟨_, rfl, ?_⟩; have bu := aj.mk (aQ (by repeat (first | (with_reducible first | exact HB.out | apply ak | apply ah | apply au) | exact HB.out)) hb); clear HB; have HB := bu; clear bu; (try clear hb); (try clear hb2); (try clear hk); (try clear hi)))
             go_ret2
             exact ⟨by first | rfl | (simp [aI, aH] <;> rfl) | (simp [*, aI, aH] <;> rfl), by repeat (first | (with_reducible first | exact HB.out | apply ak | apply ah | apply au) | exact HB.out)⟩
           · replace c33 := Bool.eq_false_iff.mpr c33
             subst c33
             have H1 : (some (t134, t135)) = some (r1, r2) := by rw [if_neg (show ¬ (false = true) by decide)] at H; exact H
             clear H
             have H := H1
             clear H1
             simp only [Option.some.injEq, Prod.mk.injEq] at H
             obtain ⟨rfl, rfl⟩ := H
             go_enter Try.func93, Try.ntmps93
             go_wp2_with (first | ((with_reducible refine az (f := 95) rfl ?_); refine aT (some 21) rfl rfl Try.func95 (by kernel_rfl) rfl #[.int .i64 a0, .int .i64 a1] rfl (by (try simp only [List.map_toArray, List.map_cons, List.map_nil]); first | done | rfl | (simp only [List.length_drop, List.length_take]; rfl)) ?_; (with_reducible refine (bg.calls a0 a1 t121 t122 false _ A3.out).mono ?_); rintro e w36 ⟨rfl, hb⟩; refine ⟨_, rfl, ?_⟩; have bu := aj.mk (aQ (by repeat (first | (with_reducible first | exact HB.out | apply ak | apply ah | apply au) | exact HB.out)) hb); clear HB; have HB := bu; clear bu; (try clear hb); (try clear hb2); (try clear hk); (try clear hi)) | ((with_reducible refine az (f := 97) rfl ?_); refine aT (some 39) rfl rfl Try.func97 (by kernel_rfl) rfl #[.int .i64 t121] rfl (by (try simp only [List.map_toArray, List.map_cons, List.map_nil]); first | done | rfl | (simp only [List.length_drop, List.length_take]; rfl)) ?_; (with_reducible refine (aV.calls t121 t124 _ SQ.out).mono ?_); rintro e w' ⟨rfl, ⟨nd, rfl⟩⟩; refine ⟨_, rfl, ?_⟩) | ((with_reducible refine az (f := 97) rfl ?_); refine aT (some 41) rfl rfl Try.func97 (by kernel_rfl) rfl #[.int .i64 t122] rfl (by (try simp only [List.map_toArray, List.map_cons, List.map_nil]); first | done | rfl | (simp only [List.length_drop, List.length_take]; rfl)) ?_; (with_reducible refine (aV.calls t122 t125 _ SN.out).mono ?_); rintro e w' ⟨rfl, ⟨nd, rfl⟩⟩; refine ⟨_, rfl, ?_⟩) | ((with_reducible refine az (f := 112) rfl ?_); refine aT (some 59) rfl rfl Try.func112 (by kernel_rfl) rfl #[.int .u64 (t124 / 1099511627776), .int .u64 (IntKind.u64.wrap (t124 * 16777216)), .int .u64 t125] rfl (by (try simp only [List.map_toArray, List.map_cons, List.map_nil]); first | done | rfl | (simp only [List.length_drop, List.length_take]; rfl)) ?_; (with_reducible refine (aJ.calls k (t124 / 1099511627776) (IntKind.u64.wrap (t124 * 16777216)) t125 t128 t129 _ PT.out).mono ?_); rintro e w' ⟨rfl, ⟨nd, rfl⟩⟩; refine ⟨_, rfl, ?_⟩) | ((with_reducible refine az (f := 98) rfl ?_); refine aT (some 84) rfl rfl Try.func98 (by kernel_rfl) rfl #[.int .u64 0, .int .u64 t128, .bool ((decide (t121 < 0)) != (decide (t122 < 0)))] rfl (by (try simp only [List.map_toArray, List.map_cons, List.map_nil]); first | done | rfl | (simp only [List.length_drop, List.length_take]; rfl)) ?_; (with_reducible refine (aO.calls 0 t128 ((decide (t121 < 0)) != (decide (t122 < 0))) t134 t135 _ A32.out).mono ?_); rintro e w37 ⟨rfl, hb⟩; refine ⟨_, rfl, ?_⟩; have bu := aj.mk (aQ (by repeat (first | (with_reducible first | exact HB.out | apply ak | apply ah | apply au) | exact HB.out)) hb); clear HB; have HB := bu; clear bu; (try clear hb); (try clear hb2); (try clear hk); (try clear hi)))
             go_ret2
             exact ⟨by first | rfl | (simp [aI, aH] <;> rfl) | (simp [*, aI, aH] <;> rfl), by repeat (first | (with_reducible first | exact HB.out | apply ak | apply ah | apply au) | exact HB.out)⟩
       · rw [if_neg c24] at H
         have Ju : (t129 == (IntKind.u64.wrap (t125 - t129))) = false := beq_eq_false_iff_ne.mpr c24
         have Jt : (t129 != (IntKind.u64.wrap (t125 - t129))) = true := bne_iff_ne.mpr c24
         replace H := Option.bind_eq_some_iff.mp H
         obtain ⟨⟨t136, t137⟩, aae, H⟩ := H
         replace H : (if t123 = true then (some (t136, true)) else (some (t136, t137))) = some (r1, r2) := H
         have A38 := aj.mk aae
         clear aae
         by_cases c39 : t123 = true
         · subst c39
           rw [if_pos rfl] at H
           simp only [Option.some.injEq, Prod.mk.injEq] at H
           obtain ⟨rfl, rfl⟩ := H
           go_enter Try.func93, Try.ntmps93
           go_wp2_with (first | ((with_reducible refine az (f := 95) rfl ?_); refine aT (some 21) rfl rfl Try.func95 (by kernel_rfl) rfl #[.int .i64 a0, .int .i64 a1] rfl (by (try simp only [List.map_toArray, List.map_cons, List.map_nil]); first | done | rfl | (simp only [List.length_drop, List.length_take]; rfl)) ?_; (with_reducible refine (bg.calls a0 a1 t121 t122 true _ A3.out).mono ?_); rintro e w40 ⟨rfl, hb⟩; refine ⟨_, rfl, ?_⟩; have bu := aj.mk (aQ (by repeat (first | (with_reducible first | exact HB.out | apply ak | apply ah | apply au) | exact HB.out)) hb); clear HB; have HB := bu; clear bu; (try clear hb); (try clear hb2); (try clear hk); (try clear hi)) | ((with_reducible refine az (f := 97) rfl ?_); refine aT (some 39) rfl rfl Try.func97 (by kernel_rfl) rfl #[.int .i64 t121] rfl (by (try simp only [List.map_toArray, List.map_cons, List.map_nil]); first | done | rfl | (simp only [List.length_drop, List.length_take]; rfl)) ?_; (with_reducible refine (aV.calls t121 t124 _ SQ.out).mono ?_); rintro e w' ⟨rfl, ⟨nd, rfl⟩⟩; refine ⟨_, rfl, ?_⟩) | ((with_reducible refine az (f := 97) rfl ?_); refine aT (some 41) rfl rfl Try.func97 (by kernel_rfl) rfl #[.int .i64 t122] rfl (by (try simp only [List.map_toArray, List.map_cons, List.map_nil]); first | done | rfl | (simp only [List.length_drop, List.length_take]; rfl)) ?_; (with_reducible refine (aV.calls t122 t125 _ SN.out).mono ?_); rintro e w' ⟨rfl, ⟨nd, rfl⟩⟩; refine ⟨_, rfl, ?_⟩) | ((with_reducible refine az (f := 112) rfl ?_); refine aT (some 59) rfl rfl Try.func112 (by kernel_rfl) rfl #[.int .u64 (t124 / 1099511627776), .int .u64 (IntKind.u64.wrap (t124 * 16777216)), .int .u64 t125] rfl (by (try simp only [List.map_toArray, List.map_cons, List.map_nil]); first | done | rfl | (simp only [List.length_drop, List.length_take]; rfl)) ?_; (with_reducible refine (aJ.calls k (t124 / 1099511627776) (IntKind.u64.wrap (t124 * 16777216)) t125 t128 t129 _ PT.out).mono ?_); rintro e w' ⟨rfl, ⟨nd, rfl⟩⟩; refine ⟨_, rfl, ?_⟩) | ((with_reducible refine az (f := 98) rfl ?_); refine aT (some 84) rfl rfl Try.func98 (by kernel_rfl) rfl #[.int .u64 0, .int .u64 t128, .bool ((decide (t121 < 0)) != (decide (t122 < 0)))] rfl (by (try simp only [List.map_toArray, List.map_cons, List.map_nil]); first | done | rfl | (simp only [List.length_drop, List.length_take]; rfl)) ?_; (with_reducible refine (aO.calls 0 t128 ((decide (t121 < 0)) != (decide (t122 < 0))) t136 t137 _ A38.out).mono ?_); rintro e w41 ⟨rfl, hb⟩; refine ⟨_, rfl, ?_⟩; have bu := aj.mk (aQ (by repeat (first | (with_reducible first | exact HB.out | apply ak | apply ah | apply au) | exact HB.out)) hb); clear HB; have HB := bu; clear bu; (try clear hb); (try clear hb2); (try clear hk); (try clear hi)))
           go_ret2
           exact ⟨by first | rfl | (simp [aI, aH] <;> rfl) | (simp [*, aI, aH] <;> rfl), by repeat (first | (with_reducible first | exact HB.out | apply ak | apply ah | apply au) | exact HB.out)⟩
         · replace c39 := Bool.eq_false_iff.mpr c39
           subst c39
           have H1 : (some (t136, t137)) = some (r1, r2) := by rw [if_neg (show ¬ (false = true) by decide)] at H; exact H
           clear H
           have H := H1
           clear H1
           simp only [Option.some.injEq, Prod.mk.injEq] at H
           obtain ⟨rfl, rfl⟩ := H
           go_enter Try.func93, Try.ntmps93
           go_wp2_with (first | ((with_reducible refine az (f := 95) rfl ?_); refine aT (some 21) rfl rfl Try.func95 (by kernel_rfl) rfl #[.int .i64 a0, .int .i64 a1] rfl (by (try simp only [List.map_toArray, List.map_cons, List.map_nil]); first | done | rfl | (simp only [List.length_drop, List.length_take]; rfl)) ?_; (with_reducible refine (bg.calls a0 a1 t121 t122 false _ A3.out).mono ?_); rintro e w42 ⟨rfl, hb⟩; refine ⟨_, rfl, ?_⟩; have bu := aj.mk (aQ (by repeat (first | (with_reducible first | exact HB.out | apply ak | apply ah | apply au) | exact HB.out)) hb); clear HB; have HB := bu; clear bu; (try clear hb); (try clear hb2); (try clear hk); (try clear hi)) | ((with_reducible refine az (f := 97) rfl ?_); refine aT (some 39) rfl rfl Try.func97 (by kernel_rfl) rfl #[.int .i64 t121] rfl (by (try simp only [List.map_toArray, List.map_cons, List.map_nil]); first | done | rfl | (simp only [List.length_drop, List.length_take]; rfl)) ?_; (with_reducible refine (aV.calls t121 t124 _ SQ.out).mono ?_); rintro e w' ⟨rfl, ⟨nd, rfl⟩⟩; refine ⟨_, rfl, ?_⟩) | ((with_reducible refine az (f := 97) rfl ?_); refine aT (some 41) rfl rfl Try.func97 (by kernel_rfl) rfl #[.int .i64 t122] rfl (by (try simp only [List.map_toArray, List.map_cons, List.map_nil]); first | done | rfl | (simp only [List.length_drop, List.length_take]; rfl)) ?_; (with_reducible refine (aV.calls t122 t125 _ SN.out).mono ?_); rintro e w' ⟨rfl, ⟨nd, rfl⟩⟩; refine ⟨_, rfl, ?_⟩) | ((with_reducible refine az (f := 112) rfl ?_); refine aT (some 59) rfl rfl Try.func112 (by kernel_rfl) rfl #[.int .u64 (t124 / 1099511627776), .int .u64 (IntKind.u64.wrap (t124 * 16777216)), .int .u64 t125] rfl (by (try simp only [List.map_toArray, List.map_cons, List.map_nil]); first | done | rfl | (simp only [List.length_drop, List.length_take]; rfl)) ?_; (with_reducible refine (aJ.calls k (t124 / 1099511627776) (IntKind.u64.wrap (t124 * 16777216)) t125 t128 t129 _ PT.out).mono ?_); rintro e w' ⟨rfl, ⟨nd, rfl⟩⟩; refine ⟨_, rfl, ?_⟩) | ((with_reducible refine az (f := 98) rfl ?_); refine aT (some 84) rfl rfl Try.func98 (by kernel_rfl) rfl #[.int .u64 0, .int .u64 t128, .bool ((decide (t121 < 0)) != (decide (t122 < 0)))] rfl (by (try simp only [List.map_toArray, List.map_cons, List.map_nil]); first | done | rfl | (simp only [List.length_drop, List.length_take]; rfl)) ?_; (with_reducible refine (aO.calls 0 t128 ((decide (t121 < 0)) != (decide (t122 < 0))) t136 t137 _ A38.out).mono ?_); rintro e w43 ⟨rfl, hb⟩; refine ⟨_, rfl, ?_⟩; have bu := aj.mk (aQ (by repeat (first | (with_reducible first | exact HB.out | apply ak | apply ah | apply au) | exact HB.out)) hb); clear HB; have HB := bu; clear bu; (try clear hb); (try clear hb2); (try clear hk); (try clear hi)))
           go_ret2
           exact ⟨by first | rfl | (simp [aI, aH] <;> rfl) | (simp [*, aI, aH] <;> rfl), by repeat (first | (with_reducible first | exact HB.out | apply ak | apply ah | apply au) | exact HB.out)⟩
def p_.f (a0 : Int) (a1 : Int) : Option (Int × Bool) := (bg.f a0 a1).bind fun zH => ((bH.f (wrap64 (zH.1 - zH.2.1))).bind fun rY => (if zH.2.2 = true then (some (rY.1, true)) else (some (rY.1, rY.2))))
theorem p_.calls (a0 : Int) (a1 : Int) (r1 : Int) (r2 : Bool) (w : World) (h : p_.f a0 a1 = some (r1, r2)) :
 Calls Try.prog 66 #[.int .i64 a0, .int .i64 a1] w fun e w' => e = .returned (.tuple #[.int .i64 r1, .bool r2]) ∧ Below w.heap.size w w' := by
 have HB := aj.mk (Below.refl w.heap.size w)
 have H : ((bg.f a0 a1).bind fun zH => ((bH.f (wrap64 (zH.1 - zH.2.1))).bind fun rY => (if zH.2.2 = true then (some (rY.1, true)) else (some (rY.1, rY.2))))) = some (r1, r2) := h
 clear h
 replace H := Option.bind_eq_some_iff.mp H
 obtain ⟨⟨t138, t139, t140⟩, CJ, H⟩ := H
 replace H : ((bH.f (wrap64 (t138 - t139))).bind fun rY => (if t140 = true then (some (rY.1, true)) else (some (rY.1, rY.2)))) = some (r1, r2) := H
 have A3 := aj.mk CJ
 clear CJ
 replace H := Option.bind_eq_some_iff.mp H
 obtain ⟨⟨t141, t142⟩, Gt, H⟩ := H
 replace H : (if t140 = true then (some (t141, true)) else (some (t141, t142))) = some (r1, r2) := H
 have A4 := aj.mk Gt
 clear Gt
 by_cases c5 : t140 = true
 · subst c5
   rw [if_pos rfl] at H
   simp only [Option.some.injEq, Prod.mk.injEq] at H
   obtain ⟨rfl, rfl⟩ := H
   go_enter Try.func66, Try.ntmps66
   go_wp2_with (first | ((with_reducible refine az (f := 95) rfl ?_); refine aT (some 12) rfl rfl Try.func95 (by kernel_rfl) rfl #[.int .i64 a0, .int .i64 a1] rfl (by (try simp only [List.map_toArray, List.map_cons, List.map_nil]); first | done | rfl | (simp only [List.length_drop, List.length_take]; rfl)) ?_; (with_reducible refine (bg.calls a0 a1 t138 t139 true _ A3.out).mono ?_); rintro e w6 ⟨rfl, hb⟩; refine ⟨_, rfl, ?_⟩; have bu := aj.mk (aQ (by repeat (first | (with_reducible first | exact HB.out | apply ak | apply ah | apply au) | exact HB.out)) hb); clear HB; have HB := bu; clear bu; (try clear hb); (try clear hb2); (try clear hk); (try clear hi)) | ((with_reducible refine az (f := 86) rfl ?_); refine aT (some 20) rfl rfl Try.func86 (by kernel_rfl) rfl #[.int .i64 (wrap64 (t138 - t139))] rfl (by (try simp only [List.map_toArray, List.map_cons, List.map_nil]); first | done | rfl | (simp only [List.length_drop, List.length_take]; rfl)) ?_; (with_reducible refine (bH.calls (wrap64 (t138 - t139)) t141 t142 _ A4.out).mono ?_); rintro e w7 ⟨rfl, hb⟩; refine ⟨_, rfl, ?_⟩; have bu := aj.mk (aQ (by repeat (first | (with_reducible first | exact HB.out | apply ak | apply ah | apply au) | exact HB.out)) hb); clear HB; have HB := bu; clear bu; (try clear hb); (try clear hb2); (try clear hk); (try clear hi)))
   go_ret2
   exact ⟨by first | rfl | (simp [aI, aH] <;> rfl) | (simp [*, aI, aH] <;> rfl), by repeat (first | (with_reducible first | exact HB.out | apply ak | apply ah | apply au) | exact HB.out)⟩
 · replace c5 := Bool.eq_false_iff.mpr c5
   subst c5
   have H1 : (some (t141, t142)) = some (r1, r2) := by rw [if_neg (show ¬ (false = true) by decide)] at H; exact H
   clear H
   have H := H1
   clear H1
   simp only [Option.some.injEq, Prod.mk.injEq] at H
   obtain ⟨rfl, rfl⟩ := H
   go_enter Try.func66, Try.ntmps66
   go_wp2_with (first | ((with_reducible refine az (f := 95) rfl ?_); refine aT (some 12) rfl rfl Try.func95 (by kernel_rfl) rfl #[.int .i64 a0, .int .i64 a1] rfl (by (try simp only [List.map_toArray, List.map_cons, List.map_nil]); first | done | rfl | (simp only [List.length_drop, List.length_take]; rfl)) ?_; (with_reducible refine (bg.calls a0 a1 t138 t139 false _ A3.out).mono ?_); rintro e w8 ⟨rfl, hb⟩; refine ⟨_, rfl, ?_⟩; have bu := aj.mk (aQ (by repeat (first | (with_reducible first | exact HB.out | apply ak | apply ah | apply au) | exact HB.out)) hb); clear HB; have HB := bu; clear bu; (try clear hb); (try clear hb2); (try clear hk); (try clear hi)) | ((with_reducible refine az (f := 86) rfl ?_); refine aT (some 20) rfl rfl Try.func86 (by kernel_rfl) rfl #[.int .i64 (wrap64 (t138 - t139))] rfl (by (try simp only [List.map_toArray, List.map_cons, List.map_nil]); first | done | rfl | (simp only [List.length_drop, List.length_take]; rfl)) ?_; (with_reducible refine (bH.calls (wrap64 (t138 - t139)) t141 t142 _ A4.out).mono ?_); rintro e w9 ⟨rfl, hb⟩; refine ⟨_, rfl, ?_⟩; have bu := aj.mk (aQ (by repeat (first | (with_reducible first | exact HB.out | apply ak | apply ah | apply au) | exact HB.out)) hb); clear HB; have HB := bu; clear bu; (try clear hb); (try clear hb2); (try clear hk); (try clear hi)))
   go_ret2
   exact ⟨by first | rfl | (simp [aI, aH] <;> rfl) | (simp [*, aI, aH] <;> rfl), by repeat (first | (with_reducible first | exact HB.out | apply ak | apply ah | apply au) | exact HB.out)⟩
end Go.Proofs.Ytnijhjbcjeohhaa.PQ

namespace Go.Proofs.Ytnijhjbcjeohhaa.PQ
open Go.RowKit Go.Proofs.af.aA Go.Proofs.af.aN Go.Proofs.af.aP
attribute [local go_sem] gz gu jc iZ fD fC gy gq
set_option linter.unusedVariables false
set_option linter.unusedSimpArgs false
def qg.f (a0 : Int) (a1 : Int) : Option (Int × Bool) := (bg.f a0 a1).bind fun zG => ((bH.f (wrap64 (zG.1 + zG.2.1))).bind fun rX => (if zG.2.2 = true then (some (rX.1, true)) else (some (rX.1, rX.2))))
theorem qg.calls (a0 : Int) (a1 : Int) (r1 : Int) (r2 : Bool) (w : World) (h : qg.f a0 a1 = some (r1, r2)) :
 Calls Try.prog 69 #[.int .i64 a0, .int .i64 a1] w fun e w' => e = .returned (.tuple #[.int .i64 r1, .bool r2]) ∧ Below w.heap.size w w' := by
 have HB := aj.mk (Below.refl w.heap.size w)
 have H : ((bg.f a0 a1).bind fun zG => ((bH.f (wrap64 (zG.1 + zG.2.1))).bind fun rX => (if zG.2.2 = true then (some (rX.1, true)) else (some (rX.1, rX.2))))) = some (r1, r2) := h
 clear h
 replace H := Option.bind_eq_some_iff.mp H
 obtain ⟨⟨t143, t144, t145⟩, CJ, H⟩ := H
 replace H : ((bH.f (wrap64 (t143 + t144))).bind fun rX => (if t145 = true then (some (rX.1, true)) else (some (rX.1, rX.2)))) = some (r1, r2) := H
 have A3 := aj.mk CJ
 clear CJ
 replace H := Option.bind_eq_some_iff.mp H
 obtain ⟨⟨t146, t147⟩, Gt, H⟩ := H
 replace H : (if t145 = true then (some (t146, true)) else (some (t146, t147))) = some (r1, r2) := H
 have A4 := aj.mk Gt
 clear Gt
 by_cases c5 : t145 = true
 · subst c5
   rw [if_pos rfl] at H
   simp only [Option.some.injEq, Prod.mk.injEq] at H
   obtain ⟨rfl, rfl⟩ := H
   go_enter Try.func69, Try.ntmps69
   go_wp2_with (first | ((with_reducible refine az (f := 95) rfl ?_); refine aT (some 12) rfl rfl Try.func95 (by kernel_rfl) rfl #[.int .i64 a0, .int .i64 a1] rfl (by (try simp only [List.map_toArray, List.map_cons, List.map_nil]); first | done | rfl | (simp only [List.length_drop, List.length_take]; rfl)) ?_; (with_reducible refine (bg.calls a0 a1 t143 t144 true _ A3.out).mono ?_); rintro e w6 ⟨rfl, hb⟩; refine ⟨_, rfl, ?_⟩; have bu := aj.mk (aQ (by repeat (first | (with_reducible first | exact HB.out | apply ak | apply ah | apply au) | exact HB.out)) hb); clear HB; have HB := bu; clear bu; (try clear hb); (try clear hb2); (try clear hk); (try clear hi)) | ((with_reducible refine az (f := 86) rfl ?_); refine aT (some 20) rfl rfl Try.func86 (by kernel_rfl) rfl #[.int .i64 (wrap64 (t143 + t144))] rfl (by (try simp only [List.map_toArray, List.map_cons, List.map_nil]); first | done | rfl | (simp only [List.length_drop, List.length_take]; rfl)) ?_; (with_reducible refine (bH.calls (wrap64 (t143 + t144)) t146 t147 _ A4.out).mono ?_); rintro e w7 ⟨rfl, hb⟩; refine ⟨_, rfl, ?_⟩; have bu := aj.mk (aQ (by repeat (first | (with_reducible first | exact HB.out | apply ak | apply ah | apply au) | exact HB.out)) hb); clear HB; have HB := bu; clear bu; (try clear hb); (try clear hb2); (try clear hk); (try clear hi)))
   go_ret2
   exact ⟨by first | rfl | (simp [aI, aH] <;> rfl) | (simp [*, aI, aH] <;> rfl), by repeat (first | (with_reducible first | exact HB.out | apply ak | apply ah | apply au) | exact HB.out)⟩
 · replace c5 := Bool.eq_false_iff.mpr c5
   subst c5
   have H1 : (some (t146, t147)) = some (r1, r2) := by rw [if_neg (show ¬ (false = true) by decide)] at H; exact H
   clear H
   have H := H1
   clear H1
   simp only [Option.some.injEq, Prod.mk.injEq] at H
   obtain ⟨rfl, rfl⟩ := H
   go_enter Try.func69, Try.ntmps69
   go_wp2_with (first | ((with_reducible refine az (f := 95) rfl ?_); refine aT (some 12) rfl rfl Try.func95 (by kernel_rfl) rfl #[.int .i64 a0, .int .i64 a1] rfl (by (try simp only [List.map_toArray, List.map_cons, List.map_nil]); first | done | rfl | (simp only [List.length_drop, List.length_take]; rfl)) ?_; (with_reducible refine (bg.calls a0 a1 t143 t144 false _ A3.out).mono ?_); rintro e w8 ⟨rfl, hb⟩; refine ⟨_, rfl, ?_⟩; have bu := aj.mk (aQ (by repeat (first | (with_reducible first | exact HB.out | apply ak | apply ah | apply au) | exact HB.out)) hb); clear HB; have HB := bu; clear bu; (try clear hb); (try clear hb2); (try clear hk); (try clear hi)) | ((with_reducible refine az (f := 86) rfl ?_); refine aT (some 20) rfl rfl Try.func86 (by kernel_rfl) rfl #[.int .i64 (wrap64 (t143 + t144))] rfl (by (try simp only [List.map_toArray, List.map_cons, List.map_nil]); first | done | rfl | (simp only [List.length_drop, List.length_take]; rfl)) ?_; (with_reducible refine (bH.calls (wrap64 (t143 + t144)) t146 t147 _ A4.out).mono ?_); rintro e w9 ⟨rfl, hb⟩; refine ⟨_, rfl, ?_⟩; have bu := aj.mk (aQ (by repeat (first | (with_reducible first | exact HB.out | apply ak | apply ah | apply au) | exact HB.out)) hb); clear HB; have HB := bu; clear bu; (try clear hb); (try clear hb2); (try clear hk); (try clear hi)))
   go_ret2
   exact ⟨by first | rfl | (simp [aI, aH] <;> rfl) | (simp [*, aI, aH] <;> rfl), by repeat (first | (with_reducible first | exact HB.out | apply ak | apply ah | apply au) | exact HB.out)⟩
def iT.f (a0 : Int) (a1 : Int) : Option (Int) := if (mn (mx a1 0) 62) > 0 then (if 0 ≤ ((mn (mx a1 0) 62) - 1) then (if (Go.bits .and .u64 (IntKind.u64.wrap (a0)) (IntKind.u64.wrap ((IntKind.u64.wrap (2 ^ (mn (mx a1 0) 62).toNat)) - 1))) > (IntKind.u64.wrap (2 ^ ((mn (mx a1 0) 62) - 1).toNat)) then (some (wrap64 ((a0 / 2 ^ (mn (mx a1 0) 62).toNat) + 1))) else (if (Go.bits .and .u64 (IntKind.u64.wrap (a0)) (IntKind.u64.wrap ((IntKind.u64.wrap (2 ^ (mn (mx a1 0) 62).toNat)) - 1))) = (IntKind.u64.wrap (2 ^ ((mn (mx a1 0) 62) - 1).toNat)) then (if (Go.bits .and .i64 (a0 / 2 ^ (mn (mx a1 0) 62).toNat) 1) = 1 then (some (wrap64 ((a0 / 2 ^ (mn (mx a1 0) 62).toNat) + 1))) else (some (a0 / 2 ^ (mn (mx a1 0) 62).toNat))) else (some (a0 / 2 ^ (mn (mx a1 0) 62).toNat)))) else (none)) else (some (a0 / 2 ^ (mn (mx a1 0) 62).toNat))
theorem iT.calls (a0 : Int) (a1 : Int) (r : Int) (w : World) (h : iT.f a0 a1 = some r) :
 Calls Try.prog 84 #[.int .i64 a0, .int .i64 a1] w fun e w' => e = .returned (.int .i64 r) ∧ Below w.heap.size w w' := by
 have HB := aj.mk (Below.refl w.heap.size w)
 have H : (if (mn (mx a1 0) 62) > 0 then (if 0 ≤ ((mn (mx a1 0) 62) - 1) then (if (Go.bits .and .u64 (IntKind.u64.wrap (a0)) (IntKind.u64.wrap ((IntKind.u64.wrap (2 ^ (mn (mx a1 0) 62).toNat)) - 1))) > (IntKind.u64.wrap (2 ^ ((mn (mx a1 0) 62) - 1).toNat)) then (some (wrap64 ((a0 / 2 ^ (mn (mx a1 0) 62).toNat) + 1))) else (if (Go.bits .and .u64 (IntKind.u64.wrap (a0)) (IntKind.u64.wrap ((IntKind.u64.wrap (2 ^ (mn (mx a1 0) 62).toNat)) - 1))) = (IntKind.u64.wrap (2 ^ ((mn (mx a1 0) 62) - 1).toNat)) then (if (Go.bits .and .i64 (a0 / 2 ^ (mn (mx a1 0) 62).toNat) 1) = 1 then (some (wrap64 ((a0 / 2 ^ (mn (mx a1 0) 62).toNat) + 1))) else (some (a0 / 2 ^ (mn (mx a1 0) 62).toNat))) else (some (a0 / 2 ^ (mn (mx a1 0) 62).toNat)))) else (none)) else (some (a0 / 2 ^ (mn (mx a1 0) 62).toNat))) = some r := h
 clear h
 obtain ⟨zZ, vI⟩ : ∃ j_ : Int, (mx a1 0) = j_ := ⟨_, rfl⟩
 replace H : (if (mn (zZ) 62) > 0 then (if 0 ≤ ((mn (zZ) 62) - 1) then (if (Go.bits .and .u64 (IntKind.u64.wrap (a0)) (IntKind.u64.wrap ((IntKind.u64.wrap (2 ^ (mn (zZ) 62).toNat)) - 1))) > (IntKind.u64.wrap (2 ^ ((mn (zZ) 62) - 1).toNat)) then (some (wrap64 ((a0 / 2 ^ (mn (zZ) 62).toNat) + 1))) else (if (Go.bits .and .u64 (IntKind.u64.wrap (a0)) (IntKind.u64.wrap ((IntKind.u64.wrap (2 ^ (mn (zZ) 62).toNat)) - 1))) = (IntKind.u64.wrap (2 ^ ((mn (zZ) 62) - 1).toNat)) then (if (Go.bits .and .i64 (a0 / 2 ^ (mn (zZ) 62).toNat) 1) = 1 then (some (wrap64 ((a0 / 2 ^ (mn (zZ) 62).toNat) + 1))) else (some (a0 / 2 ^ (mn (zZ) 62).toNat))) else (some (a0 / 2 ^ (mn (zZ) 62).toNat)))) else (none)) else (some (a0 / 2 ^ (mn (zZ) 62).toNat))) = some r := by first | (rw [vI] at H; exact H) | (simp only [vI] at H ⊢; exact H)
 (try (have aeS : 0 ≤ zZ := by (rw [← vI]; unfold mx; (repeat' split) <;> omega)))
 (try (have aeR : 0 ≤ zZ := by omega))
 have Yj : (if a1 < 0 then 0 else a1) = zZ := vI
 obtain ⟨qV, EZ⟩ : ∃ j_ : Int, (mn (zZ) 62) = j_ := ⟨_, rfl⟩
 replace H : (if (qV) > 0 then (if 0 ≤ ((qV) - 1) then (if (Go.bits .and .u64 (IntKind.u64.wrap (a0)) (IntKind.u64.wrap ((IntKind.u64.wrap (2 ^ (qV).toNat)) - 1))) > (IntKind.u64.wrap (2 ^ ((qV) - 1).toNat)) then (some (wrap64 ((a0 / 2 ^ (qV).toNat) + 1))) else (if (Go.bits .and .u64 (IntKind.u64.wrap (a0)) (IntKind.u64.wrap ((IntKind.u64.wrap (2 ^ (qV).toNat)) - 1))) = (IntKind.u64.wrap (2 ^ ((qV) - 1).toNat)) then (if (Go.bits .and .i64 (a0 / 2 ^ (qV).toNat) 1) = 1 then (some (wrap64 ((a0 / 2 ^ (qV).toNat) + 1))) else (some (a0 / 2 ^ (qV).toNat))) else (some (a0 / 2 ^ (qV).toNat)))) else (none)) else (some (a0 / 2 ^ (qV).toNat))) = some r := by first | (rw [EZ] at H; exact H) | (simp only [EZ] at H ⊢; exact H)
 have Yi : (if 62 < (zZ) then 62 else (zZ)) = qV := EZ
 by_cases c5 : (qV) > 0
 · rw [if_pos c5] at H
   have yc : decide (0 < (qV)) = true := decide_eq_true c5
   clear c5
   obtain ⟨wP, KZ⟩ : ∃ j_ : Int, ((qV) - 1) = j_ := ⟨_, rfl⟩
   have aeQ : wP ≤ 61 := by
    have h := Yi
    split at h <;> omega
   replace H : (if 0 ≤ (wP) then (if (Go.bits .and .u64 (IntKind.u64.wrap (a0)) (IntKind.u64.wrap ((IntKind.u64.wrap (2 ^ (qV).toNat)) - 1))) > (IntKind.u64.wrap (2 ^ (wP).toNat)) then (some (wrap64 ((a0 / 2 ^ (qV).toNat) + 1))) else (if (Go.bits .and .u64 (IntKind.u64.wrap (a0)) (IntKind.u64.wrap ((IntKind.u64.wrap (2 ^ (qV).toNat)) - 1))) = (IntKind.u64.wrap (2 ^ (wP).toNat)) then (if (Go.bits .and .i64 (a0 / 2 ^ (qV).toNat) 1) = 1 then (some (wrap64 ((a0 / 2 ^ (qV).toNat) + 1))) else (some (a0 / 2 ^ (qV).toNat))) else (some (a0 / 2 ^ (qV).toNat)))) else (none)) = some r := by first | (rw [KZ] at H; exact H) | (simp only [KZ] at H ⊢; exact H)
   by_cases c7 : 0 ≤ (wP)
   · rw [if_pos c7] at H
     have wX := eq_true c7
     have VR : decide (0 ≤ (wP)) = true := decide_eq_true c7
     clear c7
     by_cases c8 : (Go.bits .and .u64 (IntKind.u64.wrap (a0)) (IntKind.u64.wrap ((IntKind.u64.wrap (2 ^ (qV).toNat)) - 1))) > (IntKind.u64.wrap (2 ^ (wP).toNat))
     · rw [if_pos c8] at H
       have DN : decide ((IntKind.u64.wrap (2 ^ (wP).toNat)) < (Go.bits .and .u64 (IntKind.u64.wrap (a0)) (IntKind.u64.wrap ((IntKind.u64.wrap (2 ^ (qV).toNat)) - 1)))) = true := decide_eq_true c8
       rw [show wP.toNat = min wP.toNat 64 by omega] at DN
       clear c8
       obtain rfl := Option.some.inj H
       go_enter Try.func84, Try.ntmps84
       go_wp2
       go_ret
       exact ⟨by first | rfl | (simp [aI, aH] <;> rfl) | (simp only [← vI, ← EZ, ← KZ]; first | rfl | (simp [aI, aH] <;> rfl)) | (simp [*, aI, aH] <;> rfl), by repeat (first | (with_reducible first | exact HB.out | apply ak | apply ah | apply au) | exact HB.out)⟩
     · rw [if_neg c8] at H
       have DN : decide ((IntKind.u64.wrap (2 ^ (wP).toNat)) < (Go.bits .and .u64 (IntKind.u64.wrap (a0)) (IntKind.u64.wrap ((IntKind.u64.wrap (2 ^ (qV).toNat)) - 1)))) = false := decide_eq_false c8
       rw [show wP.toNat = min wP.toNat 64 by omega] at DN
       clear c8
       have FV := eq_true (of_decide_eq_true (by first | (with_reducible assumption) | assumption) : 0 ≤ (wP))
       by_cases c10 : (Go.bits .and .u64 (IntKind.u64.wrap (a0)) (IntKind.u64.wrap ((IntKind.u64.wrap (2 ^ (qV).toNat)) - 1))) = (IntKind.u64.wrap (2 ^ (wP).toNat))
       · rw [if_pos c10] at H
         have zF : ((Go.bits .and .u64 (IntKind.u64.wrap (a0)) (IntKind.u64.wrap ((IntKind.u64.wrap (2 ^ (qV).toNat)) - 1))) == (IntKind.u64.wrap (2 ^ (wP).toNat))) = true := beq_iff_eq.mpr c10
         rw [show wP.toNat = min wP.toNat 64 by omega] at zF
         have O_ : ((Go.bits .and .u64 (IntKind.u64.wrap (a0)) (IntKind.u64.wrap ((IntKind.u64.wrap (2 ^ (qV).toNat)) - 1))) != (IntKind.u64.wrap (2 ^ (wP).toNat))) = false := bne_eq_false_iff_eq.mpr c10
         rw [show wP.toNat = min wP.toNat 64 by omega] at O_
         clear c10
         by_cases c11 : (Go.bits .and .i64 (a0 / 2 ^ (qV).toNat) 1) = 1
         · rw [if_pos c11] at H
           have zD : ((Go.bits .and .i64 (a0 / 2 ^ (qV).toNat) 1) == 1) = true := beq_iff_eq.mpr c11
           have YG : ((Go.bits .and .i64 (a0 / 2 ^ (qV).toNat) 1) != 1) = false := bne_eq_false_iff_eq.mpr c11
           clear c11
           obtain rfl := Option.some.inj H
           go_enter Try.func84, Try.ntmps84
           go_wp2
           go_ret
           exact ⟨by first | rfl | (simp [aI, aH] <;> rfl) | (simp only [← vI, ← EZ, ← KZ]; first | rfl | (simp [aI, aH] <;> rfl)) | (simp [*, aI, aH] <;> rfl), by repeat (first | (with_reducible first | exact HB.out | apply ak | apply ah | apply au) | exact HB.out)⟩
         · rw [if_neg c11] at H
           have zD : ((Go.bits .and .i64 (a0 / 2 ^ (qV).toNat) 1) == 1) = false := beq_eq_false_iff_ne.mpr c11
           have YG : ((Go.bits .and .i64 (a0 / 2 ^ (qV).toNat) 1) != 1) = true := bne_iff_ne.mpr c11
           obtain rfl := Option.some.inj H
           go_enter Try.func84, Try.ntmps84
           go_wp2
           go_ret
           exact ⟨by first | rfl | (simp [aI, aH] <;> rfl) | (simp only [← vI, ← EZ, ← KZ]; first | rfl | (simp [aI, aH] <;> rfl)) | (simp [*, aI, aH] <;> rfl), by repeat (first | (with_reducible first | exact HB.out | apply ak | apply ah | apply au) | exact HB.out)⟩
       · rw [if_neg c10] at H
         have zF : ((Go.bits .and .u64 (IntKind.u64.wrap (a0)) (IntKind.u64.wrap ((IntKind.u64.wrap (2 ^ (qV).toNat)) - 1))) == (IntKind.u64.wrap (2 ^ (wP).toNat))) = false := beq_eq_false_iff_ne.mpr c10
         rw [show wP.toNat = min wP.toNat 64 by omega] at zF
         have O_ : ((Go.bits .and .u64 (IntKind.u64.wrap (a0)) (IntKind.u64.wrap ((IntKind.u64.wrap (2 ^ (qV).toNat)) - 1))) != (IntKind.u64.wrap (2 ^ (wP).toNat))) = true := bne_iff_ne.mpr c10
         rw [show wP.toNat = min wP.toNat 64 by omega] at O_
         obtain rfl := Option.some.inj H
         go_enter Try.func84, Try.ntmps84
         go_wp2
         go_ret
         exact ⟨by first | rfl | (simp [aI, aH] <;> rfl) | (simp only [← vI, ← EZ, ← KZ]; first | rfl | (simp [aI, aH] <;> rfl)) | (simp [*, aI, aH] <;> rfl), by repeat (first | (with_reducible first | exact HB.out | apply ak | apply ah | apply au) | exact HB.out)⟩
   · rw [if_neg c7] at H
     exact absurd H (by simp)
 · rw [if_neg c5] at H
   have yc : decide (0 < (qV)) = false := decide_eq_false c5
   clear c5
   obtain rfl := Option.some.inj H
   go_enter Try.func84, Try.ntmps84
   go_wp2
   go_ret
   exact ⟨by first | rfl | (simp [aI, aH] <;> rfl) | (simp only [← vI, ← EZ]; first | rfl | (simp [aI, aH] <;> rfl)) | (simp [*, aI, aH] <;> rfl), by repeat (first | (with_reducible first | exact HB.out | apply ak | apply ah | apply au) | exact HB.out)⟩
def bJ.l0 : Nat → Bool → Int → Int → Int → Int → Option (Int × Bool)
 | 0, _, _, _, _, _ => none
 | k + 1, x4, x5, x6, x7, x8 => if x8 > 0 then ((bits_Mul64.f (Go.bits .or .u64 x7 x8) (Go.bits .or .u64 x7 x8)).bind fun Pe => (if Pe.1 < x5 then (bJ.l0 k x4 x5 x6 (Go.bits .or .u64 x7 x8) (x8 / 2)) else (if Pe.1 = x5 then (if Pe.2 ≤ x6 then (bJ.l0 k x4 x5 x6 (Go.bits .or .u64 x7 x8) (x8 / 2)) else (bJ.l0 k x4 x5 x6 x7 (x8 / 2))) else (bJ.l0 k x4 x5 x6 x7 (x8 / 2))))) else (some (wrap64 (x7), x4))
def bJ.f (k : Nat) (a0 : Int) : Option (Int × Bool) := (bH.f a0).bind fun vU => (if vU.1 < 0 then (some (0, true)) else (bJ.l0 k vU.2 ((IntKind.u64.wrap (vU.1)) / 1099511627776) (IntKind.u64.wrap ((IntKind.u64.wrap (vU.1)) * 16777216)) 0 34359738368))
theorem bJ.calls (k : Nat) (a0 : Int) (r1 : Int) (r2 : Bool) (w : World) (h : bJ.f k a0 = some (r1, r2)) :
 Calls Try.prog 92 #[.int .i64 a0] w fun e w' => e = .returned (.tuple #[.int .i64 r1, .bool r2]) ∧ Below w.heap.size w w' := by
 have HB := aj.mk (Below.refl w.heap.size w)
 have H : ((bH.f a0).bind fun vU => (if vU.1 < 0 then (some (0, true)) else (bJ.l0 k vU.2 ((IntKind.u64.wrap (vU.1)) / 1099511627776) (IntKind.u64.wrap ((IntKind.u64.wrap (vU.1)) * 16777216)) 0 34359738368))) = some (r1, r2) := h
 clear h
 replace H := Option.bind_eq_some_iff.mp H
 obtain ⟨⟨t148, t149⟩, A20, H⟩ := H
 replace H : (if t148 < 0 then (some (0, true)) else (bJ.l0 k t149 ((IntKind.u64.wrap (t148)) / 1099511627776) (IntKind.u64.wrap ((IntKind.u64.wrap (t148)) * 16777216)) 0 34359738368)) = some (r1, r2) := H
 have A2 := aj.mk A20
 clear A20
 by_cases c3 : t148 < 0
 · rw [if_pos c3] at H
   have O9 : decide (t148 < 0) = true := decide_eq_true c3
   clear c3
   simp only [Option.some.injEq, Prod.mk.injEq] at H
   obtain ⟨rfl, rfl⟩ := H
   go_enter Try.func92, Try.ntmps92
   go_wp2_with (first | ((with_reducible refine az (f := 86) rfl ?_); refine aT (some 13) rfl rfl Try.func86 (by kernel_rfl) rfl #[.int .i64 a0] rfl (by (try simp only [List.map_toArray, List.map_cons, List.map_nil]); first | done | rfl | (simp only [List.length_drop, List.length_take]; rfl)) ?_; (with_reducible refine (bH.calls a0 t148 t149 _ A2.out).mono ?_); rintro e w4 ⟨rfl, hb⟩; refine ⟨_, rfl, ?_⟩; have bu := aj.mk (aQ (by repeat (first | (with_reducible first | exact HB.out | apply ak | apply ah | apply au) | exact HB.out)) hb); clear HB; have HB := bu; clear bu; (try clear hb); (try clear hb2); (try clear hk); (try clear hi)))
   go_ret2
   exact ⟨by first | rfl | (simp [aI, aH] <;> rfl) | (simp [*, aI, aH] <;> rfl), by repeat (first | (with_reducible first | exact HB.out | apply ak | apply ah | apply au) | exact HB.out)⟩
 · rw [if_neg c3] at H
   have O9 : decide (t148 < 0) = false := decide_eq_false c3
   clear c3
   have H' := aj.mk H
   clear H
   go_enter Try.func92, Try.ntmps92
   go_wp2_with (first | ((with_reducible refine az (f := 86) rfl ?_); refine aT (some 13) rfl rfl Try.func86 (by kernel_rfl) rfl #[.int .i64 a0] rfl (by (try simp only [List.map_toArray, List.map_cons, List.map_nil]); first | done | rfl | (simp only [List.length_drop, List.length_take]; rfl)) ?_; (with_reducible refine (bH.calls a0 t148 t149 _ A2.out).mono ?_); rintro e w5 ⟨rfl, hb⟩; refine ⟨_, rfl, ?_⟩; have bu := aj.mk (aQ (by repeat (first | (with_reducible first | exact HB.out | apply ak | apply ah | apply au) | exact HB.out)) hb); clear HB; have HB := bu; clear bu; (try clear hb); (try clear hb2); (try clear hk); (try clear hi)))
   go_loopg [7, 8] k (fun kq v7 v8 w' => ∃ (lJ : Int) (jF : Int), v7 = .int .u64 lJ ∧ v8 = .int .u64 jF ∧ aj (bJ.l0 kq t149 ((IntKind.u64.wrap (t148)) / 1099511627776) (IntKind.u64.wrap ((IntKind.u64.wrap (t148)) * 16777216)) lJ jF = some (r1, r2)) ∧ aj (kq ≤ k) ∧ aj (Below w.heap.size w w'))
   case atStart => exact ⟨(0), (34359738368), (by first | rfl | (simp; done) | (simp [*]; done)), (by first | rfl | (simp; done) | (simp [*]; done)), H', ⟨Nat.le_refl _⟩, ⟨by repeat (first | (with_reducible first | exact HB.out | apply ak | apply ah | apply au) | exact HB.out)⟩⟩
   case round =>
    clear H'
    try clear p2
    try clear c3
    try clear O9
    obtain ⟨lJ, jF, rfl, rfl, HA, wz, HB⟩ := hrel
    cases gk with
    | zero => exact absurd HA.out (by simp [bJ.l0])
    | succ k1 =>
      have H := HA.out
      clear HA
      simp only [bJ.l0] at H
      by_cases c6 : jF > 0
      · rw [if_pos c6] at H
        have zB : decide (0 < jF) = true := decide_eq_true c6
        clear c6
        replace H := Option.bind_eq_some_iff.mp H
        obtain ⟨⟨t150, t151⟩, Ul, H⟩ := H
        replace H : (if t150 < ((IntKind.u64.wrap (t148)) / 1099511627776) then (bJ.l0 k1 t149 ((IntKind.u64.wrap (t148)) / 1099511627776) (IntKind.u64.wrap ((IntKind.u64.wrap (t148)) * 16777216)) (Go.bits .or .u64 lJ jF) (jF / 2)) else (if t150 = ((IntKind.u64.wrap (t148)) / 1099511627776) then (if t151 ≤ (IntKind.u64.wrap ((IntKind.u64.wrap (t148)) * 16777216)) then (bJ.l0 k1 t149 ((IntKind.u64.wrap (t148)) / 1099511627776) (IntKind.u64.wrap ((IntKind.u64.wrap (t148)) * 16777216)) (Go.bits .or .u64 lJ jF) (jF / 2)) else (bJ.l0 k1 t149 ((IntKind.u64.wrap (t148)) / 1099511627776) (IntKind.u64.wrap ((IntKind.u64.wrap (t148)) * 16777216)) lJ (jF / 2))) else (bJ.l0 k1 t149 ((IntKind.u64.wrap (t148)) / 1099511627776) (IntKind.u64.wrap ((IntKind.u64.wrap (t148)) * 16777216)) lJ (jF / 2)))) = some (r1, r2) := H
        have A7 := aj.mk Ul
        clear Ul
        by_cases c8 : t150 < ((IntKind.u64.wrap (t148)) / 1099511627776)
        · rw [if_pos c8] at H
          have DN : decide (t150 < ((IntKind.u64.wrap (t148)) / 1099511627776)) = true := decide_eq_true c8
          clear c8
          have H' := aj.mk H
          clear H
          go_wp2_with (first | ((with_reducible refine az (f := 96) rfl ?_); refine aT (some 35) rfl rfl Try.func96 (by kernel_rfl) rfl #[.int .u64 (Go.bits .or .u64 lJ jF), .int .u64 (Go.bits .or .u64 lJ jF)] rfl (by (try simp only [List.map_toArray, List.map_cons, List.map_nil]); first | done | rfl | (simp only [List.length_drop, List.length_take]; rfl)) ?_; (with_reducible refine (bits_Mul64.calls (Go.bits .or .u64 lJ jF) (Go.bits .or .u64 lJ jF) t150 t151 _ A7.out).mono ?_); rintro e w' ⟨rfl, ⟨nd, rfl⟩⟩; refine ⟨_, rfl, ?_⟩))
          go_roundg k1
          case measure => have := wz.out; omega
          case rel => exact ⟨(Go.bits .or .u64 lJ jF), (jF / 2), (by first | rfl | (simp; done) | (simp [*]; done)), (by first | rfl | (simp; done) | (simp [*]; done)), H', ⟨by have := wz.out; omega⟩, ⟨by repeat (first | (with_reducible first | exact HB.out | apply ak | apply ah | apply au) | exact HB.out)⟩⟩
        · rw [if_neg c8] at H
          have DN : decide (t150 < ((IntKind.u64.wrap (t148)) / 1099511627776)) = false := decide_eq_false c8
          clear c8
          by_cases c9 : t150 = ((IntKind.u64.wrap (t148)) / 1099511627776)
          · rw [if_pos c9] at H
            have FV : (t150 == ((IntKind.u64.wrap (t148)) / 1099511627776)) = true := beq_iff_eq.mpr c9
            have Ij : (t150 != ((IntKind.u64.wrap (t148)) / 1099511627776)) = false := bne_eq_false_iff_eq.mpr c9
            clear c9
            by_cases c10 : t151 ≤ (IntKind.u64.wrap ((IntKind.u64.wrap (t148)) * 16777216))
            · rw [if_pos c10] at H
              have zF : decide (t151 ≤ (IntKind.u64.wrap ((IntKind.u64.wrap (t148)) * 16777216))) = true := decide_eq_true c10
              clear c10
              have H' := aj.mk H
              clear H
              go_wp2_with (first | ((with_reducible refine az (f := 96) rfl ?_); refine aT (some 35) rfl rfl Try.func96 (by kernel_rfl) rfl #[.int .u64 (Go.bits .or .u64 lJ jF), .int .u64 (Go.bits .or .u64 lJ jF)] rfl (by (try simp only [List.map_toArray, List.map_cons, List.map_nil]); first | done | rfl | (simp only [List.length_drop, List.length_take]; rfl)) ?_; (with_reducible refine (bits_Mul64.calls (Go.bits .or .u64 lJ jF) (Go.bits .or .u64 lJ jF) t150 t151 _ A7.out).mono ?_); rintro e w' ⟨rfl, ⟨nd, rfl⟩⟩; refine ⟨_, rfl, ?_⟩))
              go_roundg k1
              case measure => have := wz.out; omega
              case rel => exact ⟨(Go.bits .or .u64 lJ jF), (jF / 2), (by first | rfl | (simp; done) | (simp [*]; done)), (by first | rfl | (simp; done) | (simp [*]; done)), H', ⟨by have := wz.out; omega⟩, ⟨by repeat (first | (with_reducible first | exact HB.out | apply ak | apply ah | apply au) | exact HB.out)⟩⟩
            · rw [if_neg c10] at H
              have zF : decide (t151 ≤ (IntKind.u64.wrap ((IntKind.u64.wrap (t148)) * 16777216))) = false := decide_eq_false c10
              clear c10
              have H' := aj.mk H
              clear H
              go_wp2_with (first | ((with_reducible refine az (f := 96) rfl ?_); refine aT (some 35) rfl rfl Try.func96 (by kernel_rfl) rfl #[.int .u64 (Go.bits .or .u64 lJ jF), .int .u64 (Go.bits .or .u64 lJ jF)] rfl (by (try simp only [List.map_toArray, List.map_cons, List.map_nil]); first | done | rfl | (simp only [List.length_drop, List.length_take]; rfl)) ?_; (with_reducible refine (bits_Mul64.calls (Go.bits .or .u64 lJ jF) (Go.bits .or .u64 lJ jF) t150 t151 _ A7.out).mono ?_); rintro e w' ⟨rfl, ⟨nd, rfl⟩⟩; refine ⟨_, rfl, ?_⟩))
              go_roundg k1
              case measure => have := wz.out; omega
              case rel => exact ⟨(lJ), (jF / 2), (by first | rfl | (simp; done) | (simp [*]; done)), (by first | rfl | (simp; done) | (simp [*]; done)), H', ⟨by have := wz.out; omega⟩, ⟨by repeat (first | (with_reducible first | exact HB.out | apply ak | apply ah | apply au) | exact HB.out)⟩⟩
          · rw [if_neg c9] at H
            have FV : (t150 == ((IntKind.u64.wrap (t148)) / 1099511627776)) = false := beq_eq_false_iff_ne.mpr c9
            have Ij : (t150 != ((IntKind.u64.wrap (t148)) / 1099511627776)) = true := bne_iff_ne.mpr c9
            have H' := aj.mk H
            clear H
            go_wp2_with (first | ((with_reducible refine az (f := 96) rfl ?_); refine aT (some 35) rfl rfl Try.func96 (by kernel_rfl) rfl #[.int .u64 (Go.bits .or .u64 lJ jF), .int .u64 (Go.bits .or .u64 lJ jF)] rfl (by (try simp only [List.map_toArray, List.map_cons, List.map_nil]); first | done | rfl | (simp only [List.length_drop, List.length_take]; rfl)) ?_; (with_reducible refine (bits_Mul64.calls (Go.bits .or .u64 lJ jF) (Go.bits .or .u64 lJ jF) t150 t151 _ A7.out).mono ?_); rintro e w' ⟨rfl, ⟨nd, rfl⟩⟩; refine ⟨_, rfl, ?_⟩))
            go_roundg k1
            case measure => have := wz.out; omega
            case rel => exact ⟨(lJ), (jF / 2), (by first | rfl | (simp; done) | (simp [*]; done)), (by first | rfl | (simp; done) | (simp [*]; done)), H', ⟨by have := wz.out; omega⟩, ⟨by repeat (first | (with_reducible first | exact HB.out | apply ak | apply ah | apply au) | exact HB.out)⟩⟩
      · rw [if_neg c6] at H
        have zB : decide (0 < jF) = false := decide_eq_false c6
        clear c6
        simp only [Option.some.injEq, Prod.mk.injEq] at H
        obtain ⟨rfl, rfl⟩ := H
        go_wp2
        go_ret2
        exact ⟨by first | rfl | (simp [aI, aH] <;> rfl) | (simp [*, aI, aH] <;> rfl), by repeat (first | (with_reducible first | exact HB.out | apply ak | apply ah | apply au) | exact HB.out)⟩
def dH.j0 : Nat → Int → Bool → Option (Int)
 | 0, _, _ => none
 | k + 1, x2, x7 => if x7 = true then (some 9) else (if x2 ≤ 0 then (some 1) else (some 0))
def dH.f (k : Nat) (bI : Int) (bQ : Int) (bP : List Int) (nG : Int) (nD : Int) (xY : List Int) (bU : Int) (bW : Int) (bK : List Int) (a2 : Int) : Option (Int) := if bU = 1 then (dH.j0 k a2 (bW != bI)) else (dH.j0 k a2 true)
theorem dH.calls (k : Nat) (bI : Int) (bQ : Int) (dV : Option Addr) (dU : Nat) (bP : List Int) (nG : Int) (nD : Int) (Gu : Option Addr) (FZ : Nat) (xY : List Int) (bU : Int) (bW : Int) (fK : Option Addr) (fM : Nat) (bK : List Int) (a2 : Int) (r : Int) (w : World) (mG : Kd.C (Kd.int .i64) w dV bP.length bP) (oq : bP.length ≤ dU) (TJ : Kd.C (Kd.int .i64) w Gu xY.length xY) (TM : xY.length ≤ FZ) (qi : Kd.C (Kd.int .i64) w fK bK.length bK) (qO : bK.length ≤ fM) (h : dH.f k bI bQ bP nG nD xY bU bW bK a2 = some r) :
 Calls Try.prog 117 #[.agg #[.int .i64 bI, .int .i64 bQ, .slice dV bP.length dU, .int .i64 nG, .int .i64 nD, .slice Gu xY.length FZ], .agg #[.int .i64 bU, .int .i64 bW, .slice fK bK.length fM], .int .i64 a2] w fun e w' => e = .returned (.int .i64 r) ∧ Below w.heap.size w w' := by
 have ag8 := Try.underlying33
 have NF := Try.underlying31
 have zQ := aj.mk mG
 have zT := aj.mk oq
 clear mG oq
 have age := aj.mk TJ
 have agm := aj.mk TM
 clear TJ TM
 have zO := aj.mk qi
 have zS := aj.mk qO
 clear qi qO
 have HB := aj.mk (Below.refl w.heap.size w)
 have H : (if bU = 1 then (dH.j0 k a2 (bW != bI)) else (dH.j0 k a2 true)) = some r := h
 clear h
 have HC4 := aj.mk H
 clear H
 go_enter Try.func117, Try.ntmps117
 go_upto_region 1 with (first | ((with_reducible refine dW (N := 3) rfl ?_); refine dO ?hg (N := 3) ?hd (cs := #[.int .i64 bI, .int .i64 bQ, .slice dV bP.length dU, .int .i64 nG, .int .i64 nD, .slice Gu xY.length FZ]) (t := 33) ?hr ?_; (case hd => rfl); (case hg => rfl); (case hr => first | (go_simp; done) | (go_simp; rfl)); intro oZ hg w5 hbox hb; have bu := aj.mk (aQ (by repeat (first | (with_reducible first | exact HB.out | apply ak | apply ah | apply au) | exact HB.out)) hb); have fH := aj.mk (hbox); have fG := aj.mk ((by rw [hg]; exact (bD (by repeat (first | (with_reducible first | exact HB.out | apply ak | apply ah | apply au) | exact HB.out))) : w.heap.size ≤ oZ)); have iG := aj.mk ((by rw [hg]; exact (bD (by repeat (first | (with_reducible first | exact HB.out | apply ak | apply ah | apply au) | exact HB.out))) : w.heap.size ≤ oZ)); clear HB; have HB := bu; have kG := fH; have agt := fG; have xK := iG; clear bu fH fG iG; clear hb hbox hg) | ((with_reducible refine dW (N := 4) rfl ?_); refine dO ?hg (N := 4) ?hd (cs := #[.int .i64 bU, .int .i64 bW, .slice fK bK.length fM]) (t := 31) ?hr ?_; (case hd => rfl); (case hg => rfl); (case hr => first | (go_simp; done) | (go_simp; rfl)); intro rW hg w6 hbox hb; have bu := aj.mk (bM (g := oZ) (o := .cells #[.int .i64 bI, .int .i64 bQ, .slice dV bP.length dU, .int .i64 nG, .int .i64 nD, .slice Gu xY.length FZ] 33 (0, 0)) (by (with_reducible repeat (first | refine aF ?_ _ | refine aK ?_ | refine aG ?_ _)); exact kG.out) hb); have fH := aj.mk (aQ (by repeat (first | (with_reducible first | exact HB.out | apply ak | apply ah | apply au | refine aB ?_ xK.out) | exact HB.out)) hb); have fG := aj.mk (hbox); have iG := aj.mk ((by rw [hg]; exact (bD (by repeat (first | (with_reducible first | exact HB.out | apply ak | apply ah | apply au | refine aB ?_ xK.out) | exact HB.out))) : w.heap.size ≤ rW)); have kQ := aj.mk ((by rw [hg]; exact (bD (by repeat (first | (with_reducible first | exact HB.out | apply ak | apply ah | apply au | refine aB ?_ xK.out) | exact HB.out))) : w.heap.size ≤ rW)); have kZ := aj.mk ((by rw [hg]; exact Nat.ne_of_lt (d_ (g := oZ) (o := .cells #[.int .i64 bI, .int .i64 bQ, .slice dV bP.length dU, .int .i64 nG, .int .i64 nD, .slice Gu xY.length FZ] 33 (0, 0)) (by (with_reducible repeat (first | refine aF ?_ _ | refine aK ?_ | refine aG ?_ _)); exact kG.out)) : oZ ≠ rW)); have mF := aj.mk ((by rw [hg]; exact Nat.ne_of_gt (d_ (g := oZ) (o := .cells #[.int .i64 bI, .int .i64 bQ, .slice dV bP.length dU, .int .i64 nG, .int .i64 nD, .slice Gu xY.length FZ] 33 (0, 0)) (by (with_reducible repeat (first | refine aF ?_ _ | refine aK ?_ | refine aG ?_ _)); exact kG.out)) : rW ≠ oZ)); clear kG; clear HB; have kG := bu; have HB := fH; have oJ := fG; have ags := iG; have Gq := kQ; have Cb := kZ; have B_ := mF; clear bu fH fG iG kQ kZ mF; clear hb hbox hg))
 (try simp only [Act.put, List.setIfInBounds_toArray, List.set_cons_zero, List.set_cons_succ])
 go_cut [7] (fun v7 wc => ∃ (kq : Nat) (PZ : Bool), v7 = .bool PZ ∧ aj (dH.j0 kq a2 PZ = some r) ∧ aj (kq ≤ k) ∧ aj (wc.heap[oZ]? = some (.cells #[.int .i64 bI, .int .i64 bQ, (.slice dV bP.length dU), .int .i64 nG, .int .i64 nD, (.slice Gu xY.length FZ)] 33 (0, 0))) ∧ aj (wc.heap[rW]? = some (.cells #[.int .i64 bU, .int .i64 bW, (.slice fK bK.length fM)] 31 (0, 0))) ∧ aj (Below w.heap.size w wc))
 case first =>
  have H := HC4.out
  clear HC4
  by_cases c7 : bU = 1
  · rw [if_pos c7] at H
    have wX : (bU == 1) = true := beq_iff_eq.mpr c7
    have VR : (bU != 1) = false := bne_eq_false_iff_eq.mpr c7
    clear c7
    (first | rw [wX] | (simp only [bV, bZ]; rw [wX]) | skip)
    have H' := aj.mk H
    clear H
    have ahk := B_.out
    have ahg := Cb.out
    have NY : w6.cell? ⟨rW, 0, none⟩ = some (.int .i64 bU) := (aC oJ.out 0).trans rfl
    have Vs : w6.cell? ⟨rW, 1, none⟩ = some (.int .i64 bW) := (aC oJ.out 1).trans rfl
    have Vr : w6.cell? ⟨rW, 2, none⟩ = some (.slice fK bK.length fM) := (aC oJ.out 2).trans rfl
    have NK := aU oJ.out 0
    have Ve := aU oJ.out 1
    have Vd := aU oJ.out 2
    have QX : w6.cell? ⟨oZ, 0, none⟩ = some (.int .i64 bI) := (aC kG.out 0).trans rfl
    have QW : w6.cell? ⟨oZ, 1, none⟩ = some (.int .i64 bQ) := (aC kG.out 1).trans rfl
    have QV : w6.cell? ⟨oZ, 2, none⟩ = some (.slice dV bP.length dU) := (aC kG.out 2).trans rfl
    have QU : w6.cell? ⟨oZ, 3, none⟩ = some (.int .i64 nG) := (aC kG.out 3).trans rfl
    have QT : w6.cell? ⟨oZ, 4, none⟩ = some (.int .i64 nD) := (aC kG.out 4).trans rfl
    have QS : w6.cell? ⟨oZ, 5, none⟩ = some (.slice Gu xY.length FZ) := (aC kG.out 5).trans rfl
    have QJ := aU kG.out 0
    have QI := aU kG.out 1
    have QH := aU kG.out 2
    have QG := aU kG.out 3
    have QF := aU kG.out 4
    have QE := aU kG.out 5
    go_wp2
    go_meet
    case rel => exact ⟨_, ((bW != bI)), (by first | rfl | (simp; done) | (simp [*]; done)), H', ⟨by first | omega | exact Nat.le_refl _⟩, ⟨by (with_reducible repeat (first | refine aF ?_ _ | refine aK ?_ | refine aG ?_ _)); exact kG.out⟩, ⟨by (with_reducible repeat (first | refine aF ?_ _ | refine aK ?_ | refine aG ?_ _)); exact oJ.out⟩, ⟨by repeat (first | (with_reducible first | exact HB.out | apply ak | apply ah | apply au | refine aB ?_ xK.out | refine aB ?_ Gq.out) | exact HB.out)⟩⟩
  · rw [if_neg c7] at H
    have wX : (bU == 1) = false := beq_eq_false_iff_ne.mpr c7
    have VR : (bU != 1) = true := bne_iff_ne.mpr c7
    (first | rw [wX] | (simp only [bV, bZ]; rw [wX]) | skip)
    have H' := aj.mk H
    clear H
    have Yf := B_.out
    have Yc := Cb.out
    have Jp : w6.cell? ⟨rW, 0, none⟩ = some (.int .i64 bU) := (aC oJ.out 0).trans rfl
    have Jo : w6.cell? ⟨rW, 1, none⟩ = some (.int .i64 bW) := (aC oJ.out 1).trans rfl
    have Jn : w6.cell? ⟨rW, 2, none⟩ = some (.slice fK bK.length fM) := (aC oJ.out 2).trans rfl
    have Jm := aU oJ.out 0
    have Jl := aU oJ.out 1
    have Jk := aU oJ.out 2
    go_wp2
    go_meet
    case rel => exact ⟨_, (true), (by first | rfl | (simp; done) | (simp [*]; done)), H', ⟨by first | omega | exact Nat.le_refl _⟩, ⟨by (with_reducible repeat (first | refine aF ?_ _ | refine aK ?_ | refine aG ?_ _)); exact kG.out⟩, ⟨by (with_reducible repeat (first | refine aF ?_ _ | refine aK ?_ | refine aG ?_ _)); exact oJ.out⟩, ⟨by repeat (first | (with_reducible first | exact HB.out | apply ak | apply ah | apply au | refine aB ?_ xK.out | refine aB ?_ Gq.out) | exact HB.out)⟩⟩
 case rest =>
  clear HC4
  try clear c1
  try clear p2
  try clear c7
  try clear wX
  try clear VR
  try clear c8
  try clear c11
  try clear QX
  try clear QW
  try clear QV
  try clear QU
  try clear QT
  try clear QS
  try clear Jp
  try clear Jo
  try clear Jn
  try clear NY
  try clear Vs
  try clear Vr
  try clear QJ
  try clear QI
  try clear QH
  try clear QG
  try clear QF
  try clear QE
  try clear Jm
  try clear Jl
  try clear Jk
  try clear NK
  try clear Ve
  try clear Vd
  obtain ⟨kq, PZ, rfl, HA, HJ3, kG, oJ, HB⟩ := hcut
  cases kq with
  | zero => exact absurd HA.out (by simp [dH.j0])
  | succ kj3 =>
    have H := HA.out
    clear HA
    simp only [dH.j0] at H
    by_cases c13 : PZ = true
    · subst c13
      rw [if_pos rfl] at H
      obtain rfl := Option.some.inj H
      go_wp2
      go_ret
      exact ⟨by first | rfl | (simp [aI, aH] <;> rfl) | (simp [*, aI, aH] <;> rfl), by repeat (first | (with_reducible first | exact HB.out | apply ak | apply ah | apply au | refine aB ?_ xK.out | refine aB ?_ Gq.out) | exact HB.out)⟩
    · replace c13 := Bool.eq_false_iff.mpr c13
      subst c13
      have H1 : (if a2 ≤ 0 then (some 1) else (some 0)) = some r := by rw [if_neg (show ¬ (false = true) by decide)] at H; exact H
      clear H
      have H := H1
      clear H1
      by_cases c14 : a2 ≤ 0
      · rw [if_pos c14] at H
        have vT : decide (a2 ≤ 0) = true := decide_eq_true c14
        clear c14
        obtain rfl := Option.some.inj H
        go_wp2
        go_ret
        exact ⟨by first | rfl | (simp [aI, aH] <;> rfl) | (simp [*, aI, aH] <;> rfl), by repeat (first | (with_reducible first | exact HB.out | apply ak | apply ah | apply au | refine aB ?_ xK.out | refine aB ?_ Gq.out) | exact HB.out)⟩
      · rw [if_neg c14] at H
        have vT : decide (a2 ≤ 0) = false := decide_eq_false c14
        clear c14
        obtain rfl := Option.some.inj H
        go_wp2
        go_ret
        exact ⟨by first | rfl | (simp [aI, aH] <;> rfl) | (simp [*, aI, aH] <;> rfl), by repeat (first | (with_reducible first | exact HB.out | apply ak | apply ah | apply au | refine aB ?_ xK.out | refine aB ?_ Gq.out) | exact HB.out)⟩
def mY.f (bI : Int) (bQ : Int) (bP : List Int) : Option (Int × Int) := some (bI, bQ)
theorem mY.calls (bI : Int) (bQ : Int) (dV : Option Addr) (dU : Nat) (bP : List Int) (r1 : Int) (r2 : Int) (w : World) (mG : Kd.C (Kd.int .i64) w dV bP.length bP) (oq : bP.length ≤ dU) (h : mY.f bI bQ bP = some (r1, r2)) :
 Calls Try.prog 107 #[.agg #[.int .i64 bI, .int .i64 bQ, .slice dV bP.length dU]] w fun e w' => e = .returned (.agg #[.int .i64 r1, .int .i64 r2]) ∧ Below w.heap.size w w' := by
 have NF := Try.underlying31
 have aew := Try.underlying134
 have zQ := aj.mk mG
 have zT := aj.mk oq
 clear mG oq
 have HB := aj.mk (Below.refl w.heap.size w)
 have H : (some (bI, bQ)) = some (r1, r2) := h
 clear h
 simp only [Option.some.injEq, Prod.mk.injEq] at H
 obtain ⟨rfl, rfl⟩ := H
 go_enter Try.func107, Try.ntmps107
 go_wp2_with (first | ((with_reducible refine dW (N := 1) rfl ?_); refine dO ?hg (N := 1) ?hd (cs := #[.int .i64 bI, .int .i64 bQ, .slice dV bP.length dU]) (t := 31) ?hr ?_; (case hd => rfl); (case hg => rfl); (case hr => first | (go_simp; done) | (go_simp; rfl)); intro uw hg w2 hbox hb; have bu := aj.mk (aQ (by repeat (first | (with_reducible first | exact HB.out | apply ak | apply ah | apply au) | exact HB.out)) hb); have fH := aj.mk (hbox); have fG := aj.mk ((by rw [hg]; exact (bD (by repeat (first | (with_reducible first | exact HB.out | apply ak | apply ah | apply au) | exact HB.out))) : w.heap.size ≤ uw)); have iG := aj.mk ((by rw [hg]; exact (bD (by repeat (first | (with_reducible first | exact HB.out | apply ak | apply ah | apply au) | exact HB.out))) : w.heap.size ≤ uw)); clear HB; have HB := bu; have sN := fH; have agr := fG; have JQ := iG; clear bu fH fG iG; clear hb hbox hg) | ((with_reducible refine dW (N := 2) rfl ?_); refine dO ?hg (N := 2) ?hd (cs := #[.int .i64 0, .int .i64 0]) (t := 134) ?hr ?_; (case hd => rfl); (case hg => rfl); (case hr => first | (go_simp; done) | (go_simp; rfl)); intro zi hg w3 hbox hb; have bu := aj.mk (bM (g := uw) (o := .cells #[.int .i64 bI, .int .i64 bQ, .slice dV bP.length dU] 31 (0, 0)) (by (with_reducible repeat (first | refine aF ?_ _ | refine aK ?_ | refine aG ?_ _)); exact sN.out) hb); have fH := aj.mk (aQ (by repeat (first | (with_reducible first | exact HB.out | apply ak | apply ah | apply au | refine aB ?_ JQ.out) | exact HB.out)) hb); have fG := aj.mk (hbox); have iG := aj.mk ((by rw [hg]; exact (bD (by repeat (first | (with_reducible first | exact HB.out | apply ak | apply ah | apply au | refine aB ?_ JQ.out) | exact HB.out))) : w.heap.size ≤ zi)); have kQ := aj.mk ((by rw [hg]; exact (bD (by repeat (first | (with_reducible first | exact HB.out | apply ak | apply ah | apply au | refine aB ?_ JQ.out) | exact HB.out))) : w.heap.size ≤ zi)); have kZ := aj.mk ((by rw [hg]; exact Nat.ne_of_lt (d_ (g := uw) (o := .cells #[.int .i64 bI, .int .i64 bQ, .slice dV bP.length dU] 31 (0, 0)) (by (with_reducible repeat (first | refine aF ?_ _ | refine aK ?_ | refine aG ?_ _)); exact sN.out)) : uw ≠ zi)); have mF := aj.mk ((by rw [hg]; exact Nat.ne_of_gt (d_ (g := uw) (o := .cells #[.int .i64 bI, .int .i64 bQ, .slice dV bP.length dU] 31 (0, 0)) (by (with_reducible repeat (first | refine aF ?_ _ | refine aK ?_ | refine aG ?_ _)); exact sN.out)) : zi ≠ uw)); clear sN; clear HB; have sN := bu; have HB := fH; have Gs := fG; have agq := iG; have ZY := kQ; have MC := kZ; have Me := mF; clear bu fH fG iG kQ kZ mF; clear hb hbox hg; have ahm := MC.out; have ahi := Me.out; have acF : w3.cell? ⟨uw, 0, none⟩ = some (.int .i64 bI) := (aC sN.out 0).trans rfl; have acE : w3.cell? ⟨uw, 1, none⟩ = some (.int .i64 bQ) := (aC sN.out 1).trans rfl; have acD : w3.cell? ⟨uw, 2, none⟩ = some (.slice dV bP.length dU) := (aC sN.out 2).trans rfl; have acA := aU sN.out 0; have acz := aU sN.out 1; have acy := aU sN.out 2; have Oa : w3.cell? ⟨zi, 0, none⟩ = some (.int .i64 0) := (aC Gs.out 0).trans rfl; have N_ : w3.cell? ⟨zi, 1, none⟩ = some (.int .i64 0) := (aC Gs.out 1).trans rfl; have NM := aU Gs.out 0; have NL := aU Gs.out 1))
 refine bodyPost_ret (results_cell_row rfl _ _ zi 134 #[.int .i64 bI, .int .i64 bQ] (0, 0) _ rfl (by (with_reducible repeat (first | refine aF ?_ _ | refine aK ?_ | refine aG ?_ _)); refine gJ (cs := #[.int .i64 bI, .int .i64 0]) ?_ 1 _ rfl; (with_reducible repeat (first | refine aF ?_ _ | refine aK ?_ | refine aG ?_ _)); refine gJ (cs := #[.int .i64 0, .int .i64 0]) ?_ 0 _ rfl; (with_reducible repeat (first | refine aF ?_ _ | refine aK ?_ | refine aG ?_ _)); exact Gs.out) Try.underlying134 rfl (by kernel_rfl)) rfl ?_
 exact ⟨by first | rfl | (simp [aI, aH] <;> rfl) | (simp [*, aI, aH] <;> rfl), by repeat (first | (with_reducible first | exact HB.out | apply ak | apply ah | apply au | refine aB ?_ JQ.out | refine aB ?_ ZY.out) | exact HB.out)⟩
def dK.l0 : Nat → List Int → List Int → Int → Int → Option (Bool)
 | 0, _, _, _, _ => none
 | k + 1, x0, x1, x12, AU => if AU < x12 then (if 0 ≤ AU then (if AU < (x0.length : Int) then (if AU < (x1.length : Int) then (if (rd x0 AU) = (rd x1 AU) then (dK.l0 k x0 x1 x12 (wrap64 (AU + 1))) else (some false)) else (none)) else (none)) else (none)) else (some true)
def dK.f (k : Nat) (l0 : List Int) (l1 : List Int) : Option (Bool) := if (l0.length : Int) = (l1.length : Int) then (dK.l0 k l0 l1 (l0.length : Int) 0) else (some false)
theorem dK.calls (k : Nat) (A0 : Option Addr) (c0 : Nat) (l0 : List Int) (A1 : Option Addr) (c1 : Nat) (l1 : List Int) (r : Bool) (w : World) (hr0 : Kd.C (Kd.int .i64) w A0 l0.length l0) (hc0 : l0.length ≤ c0) (hr1 : Kd.C (Kd.int .i64) w A1 l1.length l1) (hc1 : l1.length ≤ c1) (h : dK.f k l0 l1 = some r) :
 Calls Try.prog 108 #[.slice A0 l0.length c0, .slice A1 l1.length c1] w fun e w' => e = .returned (.bool r) ∧ bn w w' := by
 have HR0 := aj.mk hr0
 have HC0 := aj.mk hc0
 clear hr0 hc0
 have HR1 := aj.mk hr1
 have HC1 := aj.mk hc1
 clear hr1 hc1
 have H : (if (l0.length : Int) = (l1.length : Int) then (dK.l0 k l0 l1 (l0.length : Int) 0) else (some false)) = some r := h
 clear h
 by_cases c3 : (l0.length : Int) = (l1.length : Int)
 · rw [if_pos c3] at H
   have O9 : ((l0.length : Int) == (l1.length : Int)) = true := beq_iff_eq.mpr c3
   have Yy : ((l0.length : Int) != (l1.length : Int)) = false := bne_eq_false_iff_eq.mpr c3
   have Yx : (l0.length == l1.length) = true := by first | simpa using c3 | (simp at c3 ⊢; omega)
   clear c3
   have H' := aj.mk H
   clear H
   go_enter Try.func108, Try.ntmps108
   go_wp2
   repeat (go_quiet (fail); try go_wp2)
   go_loopg [13] k (fun kq v13 w' => ∃ (fB : Int), v13 = .int .i64 fB ∧ aj (dK.l0 kq l0 l1 (l0.length : Int) fB = some r) ∧ aj (kq ≤ k) ∧ bn w w')
   case atStart => exact ⟨(0), (by first | rfl | (simp; done) | (simp [*]; done)), H', ⟨Nat.le_refl _⟩, by repeat (first | exact bn.refl _ | apply bn.step)⟩
   case round =>
    clear H'
    try clear c1
    try clear p2
    try clear c3
    try clear O9
    try clear Yy
    try clear Yx
    obtain ⟨fB, rfl, HA, wz, ⟨m1, rfl⟩⟩ := hrel
    cases gk with
    | zero => exact absurd HA.out (by simp [dK.l0])
    | succ k1 =>
      have H := HA.out
      clear HA
      simp only [dK.l0] at H
      by_cases c4 : fB < (l0.length : Int)
      · rw [if_pos c4] at H
        have DR : decide (fB < (l0.length : Int)) = true := decide_eq_true c4
        clear c4
        by_cases c5 : 0 ≤ fB
        · rw [if_pos c5] at H
          have yc : decide (0 ≤ fB) = true := decide_eq_true c5
          clear c5
          by_cases c6 : fB < (l0.length : Int)
          · rw [if_pos c6] at H
            have zB : decide (fB < (l0.length : Int)) = true := decide_eq_true c6
            clear c6
            by_cases c7 : fB < (l1.length : Int)
            · rw [if_pos c7] at H
              have wX : decide (fB < (l1.length : Int)) = true := decide_eq_true c7
              clear c7
              by_cases c8 : (rd l0 fB) = (rd l1 fB)
              · rw [if_pos c8] at H
                have DN : ((rd l0 fB) == (rd l1 fB)) = true := beq_iff_eq.mpr c8
                have acX : ((rd l0 fB) != (rd l1 fB)) = false := bne_eq_false_iff_eq.mpr c8
                clear c8
                have H' := aj.mk H
                clear H
                have Hg : 0 ≤ (fB : Int) := of_decide_eq_true (by first | (with_reducible assumption) | assumption)
                have G_ : fB < (l0.length : Int) := of_decide_eq_true (by first | (with_reducible assumption) | assumption)
                obtain ⟨YL, VL, Qw⟩ := Kd.pR HR0.out fB Hg G_
                cases VL
                replace Hg := eq_true Hg
                replace G_ := eq_true G_
                have Hf : 0 ≤ (fB : Int) := of_decide_eq_true (by first | (with_reducible assumption) | assumption)
                have G9 : fB < (l1.length : Int) := of_decide_eq_true (by first | (with_reducible assumption) | assumption)
                obtain ⟨YK, VK, Qv⟩ := Kd.pR HR1.out fB Hf G9
                cases VK
                replace Hf := eq_true Hf
                replace G9 := eq_true G9
                go_wp2
                repeat (go_quiet (fail); try go_wp2)
                go_roundg k1
                case measure => have := wz.out; omega
                case rel => exact ⟨(wrap64 (fB + 1)), (by first | rfl | (simp; done) | (simp [*]; done)), H', ⟨by have := wz.out; omega⟩, by repeat (first | exact bn.refl _ | apply bn.step)⟩
              · rw [if_neg c8] at H
                have DN : ((rd l0 fB) == (rd l1 fB)) = false := beq_eq_false_iff_ne.mpr c8
                have acX : ((rd l0 fB) != (rd l1 fB)) = true := bne_iff_ne.mpr c8
                obtain rfl := Option.some.inj H
                have Hg : 0 ≤ (fB : Int) := of_decide_eq_true (by first | (with_reducible assumption) | assumption)
                have G_ : fB < (l0.length : Int) := of_decide_eq_true (by first | (with_reducible assumption) | assumption)
                obtain ⟨YL, VL, Qw⟩ := Kd.pR HR0.out fB Hg G_
                cases VL
                replace Hg := eq_true Hg
                replace G_ := eq_true G_
                have Hf : 0 ≤ (fB : Int) := of_decide_eq_true (by first | (with_reducible assumption) | assumption)
                have G9 : fB < (l1.length : Int) := of_decide_eq_true (by first | (with_reducible assumption) | assumption)
                obtain ⟨YK, VK, Qv⟩ := Kd.pR HR1.out fB Hf G9
                cases VK
                replace Hf := eq_true Hf
                replace G9 := eq_true G9
                go_wp2
                repeat (go_quiet (fail); try go_wp2)
                go_ret
                exact ⟨by first | rfl | (simp; done) | (simp [*]; done), by repeat (first | exact bn.refl _ | apply bn.step)⟩
            · rw [if_neg c7] at H
              exact absurd H (by simp)
          · rw [if_neg c6] at H
            exact absurd H (by simp)
        · rw [if_neg c5] at H
          exact absurd H (by simp)
      · rw [if_neg c4] at H
        have DR : decide (fB < (l0.length : Int)) = false := decide_eq_false c4
        clear c4
        obtain rfl := Option.some.inj H
        go_wp2
        repeat (go_quiet (fail); try go_wp2)
        go_ret
        exact ⟨by first | rfl | (simp; done) | (simp [*]; done), by repeat (first | exact bn.refl _ | apply bn.step)⟩
 · rw [if_neg c3] at H
   have O9 : ((l0.length : Int) == (l1.length : Int)) = false := beq_eq_false_iff_ne.mpr c3
   have Yy : ((l0.length : Int) != (l1.length : Int)) = true := bne_iff_ne.mpr c3
   have Yx : (l0.length == l1.length) = false := by first | simpa using c3 | (simp at c3 ⊢; omega)
   obtain rfl := Option.some.inj H
   go_enter Try.func108, Try.ntmps108
   go_wp2
   repeat (go_quiet (fail); try go_wp2)
   go_ret
   exact ⟨by first | rfl | (simp; done) | (simp [*]; done), by repeat (first | exact bn.refl _ | apply bn.step)⟩
end Go.Proofs.Ytnijhjbcjeohhaa.PQ

