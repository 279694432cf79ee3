import Derived.Test.YtnijhjbcjeohhaaX2
/- Joined and thinned by a program of this session's own (wip/pack2.py) out of its texts (wip/ of its repo); parts were laid by its own program (wip/print-patch.py over the kit's print) out of the translation; Lean checks all. -/
set_option maxRecDepth 100000
set_option maxHeartbeats 8000000
namespace Go.Proofs.Ytnijhjbcjeohhaa.PQ
open Go.RowKit Go.Proofs.af.aF Go.Proofs.af.aP Go.Proofs.af.aQ
attribute [local go_sem] fU fP iJ iI eG eF fQ fO
set_option linter.unusedVariables false
set_option linter.unusedSimpArgs false
mutual
def aI.j2 : Nat → Int → Int → Int → Int → Int → Int → Int → Int → Option (Int × Int)
 | 0, _, _, _, _, _, _, _, _ => none
 | k + 1, x2, x8, x9, x10, x11, w_, x14, x15 => if x9 = 0 then (none) else (aI.l1 k x2 x8 x9 x10 x14 x15 (IntKind.u64.wrap ((IntKind.u64.wrap ((IntKind.u64.wrap ((IntKind.u64.wrap (x11 * 4294967296)) + w_)) - (IntKind.u64.wrap (x15 * x2)))) - (IntKind.u64.wrap ((IntKind.u64.wrap (Int.tdiv (IntKind.u64.wrap ((IntKind.u64.wrap ((IntKind.u64.wrap (x11 * 4294967296)) + w_)) - (IntKind.u64.wrap (x15 * x2)))) x9)) * x9)))) (IntKind.u64.wrap ((IntKind.u64.wrap ((IntKind.u64.wrap (x11 * 4294967296)) + w_)) - (IntKind.u64.wrap (x15 * x2)))) (IntKind.u64.wrap (Int.tdiv (IntKind.u64.wrap ((IntKind.u64.wrap ((IntKind.u64.wrap (x11 * 4294967296)) + w_)) - (IntKind.u64.wrap (x15 * x2)))) x9)))
def aI.l1 : Nat → Int → Int → Int → Int → Int → Int → Int → Int → Int → Option (Int × Int)
 | 0, _, _, _, _, _, _, _, _, _ => none
 | k + 1, x2, x8, x9, x10, x14, x15, x16, x17, x18 => if x18 ≥ 4294967296 then (aI.j4 k x2 x8 x9 x10 x14 x15 x16 x17 x18 true) else (aI.j4 k x2 x8 x9 x10 x14 x15 x16 x17 x18 (decide ((IntKind.u64.wrap (x18 * x10)) > (IntKind.u64.wrap ((IntKind.u64.wrap (4294967296 * x16)) + x14)))))
def aI.j4 : Nat → Int → Int → Int → Int → Int → Int → Int → Int → Int → Bool → Option (Int × Int)
 | 0, _, _, _, _, _, _, _, _, _, _ => none
 | k + 1, x2, x8, x9, x10, x14, x15, x16, x17, x18, x113 => if x113 = true then (if (IntKind.u64.wrap (x16 + x9)) ≥ 4294967296 then (if 0 ≤ x8 then (some (IntKind.u64.wrap ((IntKind.u64.wrap (x15 * 4294967296)) + (IntKind.u64.wrap (x18 - 1))), shr .u64 (IntKind.u64.wrap ((IntKind.u64.wrap ((IntKind.u64.wrap (x17 * 4294967296)) + x14)) - (IntKind.u64.wrap ((IntKind.u64.wrap (x18 - 1)) * x2)))) x8)) else (none)) else (aI.l1 k x2 x8 x9 x10 x14 x15 (IntKind.u64.wrap (x16 + x9)) x17 (IntKind.u64.wrap (x18 - 1)))) else (if 0 ≤ x8 then (some (IntKind.u64.wrap ((IntKind.u64.wrap (x15 * 4294967296)) + x18), shr .u64 (IntKind.u64.wrap ((IntKind.u64.wrap ((IntKind.u64.wrap (x17 * 4294967296)) + x14)) - (IntKind.u64.wrap (x18 * x2)))) x8)) else (none))
def aI.l0 : Nat → Int → Int → Int → Int → Int → Int → Int → Int → Int → Option (Int × Int)
 | 0, _, _, _, _, _, _, _, _, _ => none
 | k + 1, x2, x8, x9, x10, x11, w_, x14, x15, x16 => if x15 ≥ 4294967296 then (aI.j1 k x2 x8 x9 x10 x11 w_ x14 x15 x16 true) else (aI.j1 k x2 x8 x9 x10 x11 w_ x14 x15 x16 (decide ((IntKind.u64.wrap (x15 * x10)) > (IntKind.u64.wrap ((IntKind.u64.wrap (4294967296 * x16)) + w_)))))
def aI.j1 : Nat → Int → Int → Int → Int → Int → Int → Int → Int → Int → Bool → Option (Int × Int)
 | 0, _, _, _, _, _, _, _, _, _, _ => none
 | k + 1, x2, x8, x9, x10, x11, w_, x14, x15, x16, x78 => if x78 = true then (if (IntKind.u64.wrap (x16 + x9)) ≥ 4294967296 then (aI.j2 k x2 x8 x9 x10 x11 w_ x14 (IntKind.u64.wrap (x15 - 1))) else (aI.l0 k x2 x8 x9 x10 x11 w_ x14 (IntKind.u64.wrap (x15 - 1)) (IntKind.u64.wrap (x16 + x9)))) else (aI.j2 k x2 x8 x9 x10 x11 w_ x14 x15)
end
def aI.f (k : Nat) (a0 : Int) (a1 : Int) (a2 : Int) : Option (Int × Int) := if a2 = 0 then (none) else (if a2 ≤ a0 then (none) else (if a0 = 0 then (some (IntKind.u64.wrap (Int.tdiv a1 a2), Int.tmod a1 a2)) else ((bits_LeadingZeros64.f a2).bind fun t120 => (if 0 ≤ (IntKind.u64.wrap (t120)) then (if 0 ≤ (IntKind.u64.wrap (64 - (IntKind.u64.wrap (t120)))) then (if ((shl .u64 a2 (IntKind.u64.wrap (t120))) / 4294967296) = 0 then (none) else (aI.l0 k (shl .u64 a2 (IntKind.u64.wrap (t120))) (IntKind.u64.wrap (t120)) ((shl .u64 a2 (IntKind.u64.wrap (t120))) / 4294967296) (Go.bits .and .u64 (shl .u64 a2 (IntKind.u64.wrap (t120))) 4294967295) (Go.bits .or .u64 (shl .u64 a0 (IntKind.u64.wrap (t120))) (shr .u64 a1 (IntKind.u64.wrap (64 - (IntKind.u64.wrap (t120)))))) ((shl .u64 a1 (IntKind.u64.wrap (t120))) / 4294967296) (Go.bits .and .u64 (shl .u64 a1 (IntKind.u64.wrap (t120))) 4294967295) (IntKind.u64.wrap (Int.tdiv (Go.bits .or .u64 (shl .u64 a0 (IntKind.u64.wrap (t120))) (shr .u64 a1 (IntKind.u64.wrap (64 - (IntKind.u64.wrap (t120)))))) ((shl .u64 a2 (IntKind.u64.wrap (t120))) / 4294967296))) (IntKind.u64.wrap ((Go.bits .or .u64 (shl .u64 a0 (IntKind.u64.wrap (t120))) (shr .u64 a1 (IntKind.u64.wrap (64 - (IntKind.u64.wrap (t120)))))) - (IntKind.u64.wrap ((IntKind.u64.wrap (Int.tdiv (Go.bits .or .u64 (shl .u64 a0 (IntKind.u64.wrap (t120))) (shr .u64 a1 (IntKind.u64.wrap (64 - (IntKind.u64.wrap (t120)))))) ((shl .u64 a2 (IntKind.u64.wrap (t120))) / 4294967296))) * ((shl .u64 a2 (IntKind.u64.wrap (t120))) / 4294967296))))))) else (none)) else (none)))))
theorem aI.calls (k : Nat) (a0 : Int) (a1 : Int) (a2 : Int) (r1 : Int) (r2 : Int) (w : World) (h : aI.f k a0 a1 a2 = some (r1, r2)) :
 Calls Try.prog 112 #[.int .u64 a0, .int .u64 a1, .int .u64 a2] w fun e w' => e = .returned (.tuple #[.int .u64 r1, .int .u64 r2]) ∧ bf w w' := by
 have H : (if a2 = 0 then (none) else (if a2 ≤ a0 then (none) else (if a0 = 0 then (some (IntKind.u64.wrap (Int.tdiv a1 a2), Int.tmod a1 a2)) else ((bits_LeadingZeros64.f a2).bind fun t120 => (if 0 ≤ (IntKind.u64.wrap (t120)) then (if 0 ≤ (IntKind.u64.wrap (64 - (IntKind.u64.wrap (t120)))) then (if ((shl .u64 a2 (IntKind.u64.wrap (t120))) / 4294967296) = 0 then (none) else (aI.l0 k (shl .u64 a2 (IntKind.u64.wrap (t120))) (IntKind.u64.wrap (t120)) ((shl .u64 a2 (IntKind.u64.wrap (t120))) / 4294967296) (Go.bits .and .u64 (shl .u64 a2 (IntKind.u64.wrap (t120))) 4294967295) (Go.bits .or .u64 (shl .u64 a0 (IntKind.u64.wrap (t120))) (shr .u64 a1 (IntKind.u64.wrap (64 - (IntKind.u64.wrap (t120)))))) ((shl .u64 a1 (IntKind.u64.wrap (t120))) / 4294967296) (Go.bits .and .u64 (shl .u64 a1 (IntKind.u64.wrap (t120))) 4294967295) (IntKind.u64.wrap (Int.tdiv (Go.bits .or .u64 (shl .u64 a0 (IntKind.u64.wrap (t120))) (shr .u64 a1 (IntKind.u64.wrap (64 - (IntKind.u64.wrap (t120)))))) ((shl .u64 a2 (IntKind.u64.wrap (t120))) / 4294967296))) (IntKind.u64.wrap ((Go.bits .or .u64 (shl .u64 a0 (IntKind.u64.wrap (t120))) (shr .u64 a1 (IntKind.u64.wrap (64 - (IntKind.u64.wrap (t120)))))) - (IntKind.u64.wrap ((IntKind.u64.wrap (Int.tdiv (Go.bits .or .u64 (shl .u64 a0 (IntKind.u64.wrap (t120))) (shr .u64 a1 (IntKind.u64.wrap (64 - (IntKind.u64.wrap (t120)))))) ((shl .u64 a2 (IntKind.u64.wrap (t120))) / 4294967296))) * ((shl .u64 a2 (IntKind.u64.wrap (t120))) / 4294967296))))))) else (none)) else (none)))))) = some (r1, r2) := h
 clear h
 by_cases c4 : a2 = 0
 · rw [if_pos c4] at H
   exact absurd H (by simp)
 · rw [if_neg c4] at H
   have yJ : (a2 == 0) = false := beq_eq_false_iff_ne.mpr c4
   have CO : (a2 != 0) = true := bne_iff_ne.mpr c4
   by_cases c5 : a2 ≤ a0
   · rw [if_pos c5] at H
     exact absurd H (by simp)
   · rw [if_neg c5] at H
     have uF : decide (a2 ≤ a0) = false := decide_eq_false c5
     clear c5
     by_cases c6 : a0 = 0
     · rw [if_pos c6] at H
       have CJ : (a0 == 0) = true := beq_iff_eq.mpr c6
       have FO : (a0 != 0) = false := bne_eq_false_iff_eq.mpr c6
       clear c6
       simp only [Option.some.injEq, Prod.mk.injEq] at H
       obtain ⟨rfl, rfl⟩ := H
       go_enter Try.func112, Try.ntmps112
       go_wp2
       repeat (go_quiet (fail); try go_wp2)
       go_ret2
       exact ⟨by first | rfl | (simp; done) | (simp [*]; done), by repeat (first | exact bf.refl _ | apply bf.step)⟩
     · rw [if_neg c6] at H
       have CJ : (a0 == 0) = false := beq_eq_false_iff_ne.mpr c6
       have FO : (a0 != 0) = true := bne_iff_ne.mpr c6
       replace H := Option.bind_eq_some_iff.mp H
       obtain ⟨t120, Ul, H⟩ := H
       replace H : (if 0 ≤ (IntKind.u64.wrap (t120)) then (if 0 ≤ (IntKind.u64.wrap (64 - (IntKind.u64.wrap (t120)))) then (if ((shl .u64 a2 (IntKind.u64.wrap (t120))) / 4294967296) = 0 then (none) else (aI.l0 k (shl .u64 a2 (IntKind.u64.wrap (t120))) (IntKind.u64.wrap (t120)) ((shl .u64 a2 (IntKind.u64.wrap (t120))) / 4294967296) (Go.bits .and .u64 (shl .u64 a2 (IntKind.u64.wrap (t120))) 4294967295) (Go.bits .or .u64 (shl .u64 a0 (IntKind.u64.wrap (t120))) (shr .u64 a1 (IntKind.u64.wrap (64 - (IntKind.u64.wrap (t120)))))) ((shl .u64 a1 (IntKind.u64.wrap (t120))) / 4294967296) (Go.bits .and .u64 (shl .u64 a1 (IntKind.u64.wrap (t120))) 4294967295) (IntKind.u64.wrap (Int.tdiv (Go.bits .or .u64 (shl .u64 a0 (IntKind.u64.wrap (t120))) (shr .u64 a1 (IntKind.u64.wrap (64 - (IntKind.u64.wrap (t120)))))) ((shl .u64 a2 (IntKind.u64.wrap (t120))) / 4294967296))) (IntKind.u64.wrap ((Go.bits .or .u64 (shl .u64 a0 (IntKind.u64.wrap (t120))) (shr .u64 a1 (IntKind.u64.wrap (64 - (IntKind.u64.wrap (t120)))))) - (IntKind.u64.wrap ((IntKind.u64.wrap (Int.tdiv (Go.bits .or .u64 (shl .u64 a0 (IntKind.u64.wrap (t120))) (shr .u64 a1 (IntKind.u64.wrap (64 - (IntKind.u64.wrap (t120)))))) ((shl .u64 a2 (IntKind.u64.wrap (t120))) / 4294967296))) * ((shl .u64 a2 (IntKind.u64.wrap (t120))) / 4294967296))))))) else (none)) else (none)) = some (r1, r2) := H
       have A7 := aj.mk Ul
       clear Ul
       obtain ⟨gB, Hf⟩ : ∃ j_ : Int, (IntKind.u64.wrap (t120)) = j_ := ⟨_, rfl⟩
       replace H : (if 0 ≤ (gB) then (if 0 ≤ (IntKind.u64.wrap (64 - (gB))) then (if ((shl .u64 a2 (gB)) / 4294967296) = 0 then (none) else (aI.l0 k (shl .u64 a2 (gB)) gB ((shl .u64 a2 (gB)) / 4294967296) (Go.bits .and .u64 (shl .u64 a2 (gB)) 4294967295) (Go.bits .or .u64 (shl .u64 a0 (gB)) (shr .u64 a1 (IntKind.u64.wrap (64 - (gB))))) ((shl .u64 a1 (gB)) / 4294967296) (Go.bits .and .u64 (shl .u64 a1 (gB)) 4294967295) (IntKind.u64.wrap (Int.tdiv (Go.bits .or .u64 (shl .u64 a0 (gB)) (shr .u64 a1 (IntKind.u64.wrap (64 - (gB))))) ((shl .u64 a2 (gB)) / 4294967296))) (IntKind.u64.wrap ((Go.bits .or .u64 (shl .u64 a0 (gB)) (shr .u64 a1 (IntKind.u64.wrap (64 - (gB))))) - (IntKind.u64.wrap ((IntKind.u64.wrap (Int.tdiv (Go.bits .or .u64 (shl .u64 a0 (gB)) (shr .u64 a1 (IntKind.u64.wrap (64 - (gB))))) ((shl .u64 a2 (gB)) / 4294967296))) * ((shl .u64 a2 (gB)) / 4294967296))))))) else (none)) else (none)) = some (r1, r2) := by first | (rw [Hf] at H; exact H) | (simp only [Hf] at H ⊢; exact H)
       (try rw [Hf] at A7)
       by_cases c9 : 0 ≤ (gB)
       · rw [if_pos c9] at H
         have FN := eq_true c9
         have Iq : decide (0 ≤ (gB)) = true := decide_eq_true c9
         clear c9
         obtain ⟨bV, lY⟩ : ∃ j_ : Int, (shl .u64 a2 (gB)) = j_ := ⟨_, rfl⟩
         replace H : (if 0 ≤ (IntKind.u64.wrap (64 - (gB))) then (if ((bV) / 4294967296) = 0 then (none) else (aI.l0 k bV gB ((bV) / 4294967296) (Go.bits .and .u64 (bV) 4294967295) (Go.bits .or .u64 (shl .u64 a0 (gB)) (shr .u64 a1 (IntKind.u64.wrap (64 - (gB))))) ((shl .u64 a1 (gB)) / 4294967296) (Go.bits .and .u64 (shl .u64 a1 (gB)) 4294967295) (IntKind.u64.wrap (Int.tdiv (Go.bits .or .u64 (shl .u64 a0 (gB)) (shr .u64 a1 (IntKind.u64.wrap (64 - (gB))))) ((bV) / 4294967296))) (IntKind.u64.wrap ((Go.bits .or .u64 (shl .u64 a0 (gB)) (shr .u64 a1 (IntKind.u64.wrap (64 - (gB))))) - (IntKind.u64.wrap ((IntKind.u64.wrap (Int.tdiv (Go.bits .or .u64 (shl .u64 a0 (gB)) (shr .u64 a1 (IntKind.u64.wrap (64 - (gB))))) ((bV) / 4294967296))) * ((bV) / 4294967296))))))) else (none)) = some (r1, r2) := by first | (rw [lY] at H; exact H) | (simp only [lY] at H ⊢; exact H)
         (try rw [lY] at A7)
         have Xn : (IntKind.u64.wrap (a2 * 2 ^ min (gB).toNat 64)) = bV := lY
         have Xm : (gB) ≤ 64 → (IntKind.u64.wrap (a2 * 2 ^ (gB).toNat)) = bV := r_ lY
         have wz := eq_true (of_decide_eq_true (by first | (with_reducible assumption) | assumption) : 0 ≤ (gB))
         obtain ⟨iH, oM⟩ : ∃ j_ : Int, (shl .u64 a0 (gB)) = j_ := ⟨_, rfl⟩
         replace H : (if 0 ≤ (IntKind.u64.wrap (64 - (gB))) then (if ((bV) / 4294967296) = 0 then (none) else (aI.l0 k bV gB ((bV) / 4294967296) (Go.bits .and .u64 (bV) 4294967295) (Go.bits .or .u64 (iH) (shr .u64 a1 (IntKind.u64.wrap (64 - (gB))))) ((shl .u64 a1 (gB)) / 4294967296) (Go.bits .and .u64 (shl .u64 a1 (gB)) 4294967295) (IntKind.u64.wrap (Int.tdiv (Go.bits .or .u64 (iH) (shr .u64 a1 (IntKind.u64.wrap (64 - (gB))))) ((bV) / 4294967296))) (IntKind.u64.wrap ((Go.bits .or .u64 (iH) (shr .u64 a1 (IntKind.u64.wrap (64 - (gB))))) - (IntKind.u64.wrap ((IntKind.u64.wrap (Int.tdiv (Go.bits .or .u64 (iH) (shr .u64 a1 (IntKind.u64.wrap (64 - (gB))))) ((bV) / 4294967296))) * ((bV) / 4294967296))))))) else (none)) = some (r1, r2) := by first | (rw [oM] at H; exact H) | (simp only [oM] at H ⊢; exact H)
         (try rw [oM] at A7)
         have Xl : (IntKind.u64.wrap (a0 * 2 ^ min (gB).toNat 64)) = iH := oM
         have Xk : (gB) ≤ 64 → (IntKind.u64.wrap (a0 * 2 ^ (gB).toNat)) = iH := r_ oM
         obtain ⟨vS, zK⟩ : ∃ j_ : Int, (IntKind.u64.wrap (64 - (gB))) = j_ := ⟨_, rfl⟩
         replace H : (if 0 ≤ (vS) then (if ((bV) / 4294967296) = 0 then (none) else (aI.l0 k bV gB ((bV) / 4294967296) (Go.bits .and .u64 (bV) 4294967295) (Go.bits .or .u64 (iH) (shr .u64 a1 (vS))) ((shl .u64 a1 (gB)) / 4294967296) (Go.bits .and .u64 (shl .u64 a1 (gB)) 4294967295) (IntKind.u64.wrap (Int.tdiv (Go.bits .or .u64 (iH) (shr .u64 a1 (vS))) ((bV) / 4294967296))) (IntKind.u64.wrap ((Go.bits .or .u64 (iH) (shr .u64 a1 (vS))) - (IntKind.u64.wrap ((IntKind.u64.wrap (Int.tdiv (Go.bits .or .u64 (iH) (shr .u64 a1 (vS))) ((bV) / 4294967296))) * ((bV) / 4294967296))))))) else (none)) = some (r1, r2) := by first | (rw [zK] at H; exact H) | (simp only [zK] at H ⊢; exact H)
         (try rw [zK] at A7)
         by_cases c14 : 0 ≤ (vS)
         · rw [if_pos c14] at H
           have rG := eq_true c14
           have wu : decide (0 ≤ (vS)) = true := decide_eq_true c14
           clear c14
           obtain ⟨jQ, oL⟩ : ∃ j_ : Int, (shr .u64 a1 (vS)) = j_ := ⟨_, rfl⟩
           replace H : (if ((bV) / 4294967296) = 0 then (none) else (aI.l0 k bV gB ((bV) / 4294967296) (Go.bits .and .u64 (bV) 4294967295) (Go.bits .or .u64 (iH) (jQ)) ((shl .u64 a1 (gB)) / 4294967296) (Go.bits .and .u64 (shl .u64 a1 (gB)) 4294967295) (IntKind.u64.wrap (Int.tdiv (Go.bits .or .u64 (iH) (jQ)) ((bV) / 4294967296))) (IntKind.u64.wrap ((Go.bits .or .u64 (iH) (jQ)) - (IntKind.u64.wrap ((IntKind.u64.wrap (Int.tdiv (Go.bits .or .u64 (iH) (jQ)) ((bV) / 4294967296))) * ((bV) / 4294967296))))))) = some (r1, r2) := by first | (rw [oL] at H; exact H) | (simp only [oL] at H ⊢; exact H)
           (try rw [oL] at A7)
           have Xi : (a1 / 2 ^ min (vS).toNat 64) = jQ := oL
           have Xh : (vS) ≤ 64 → (a1 / 2 ^ (vS).toNat) = jQ := rZ oL
           have xH := eq_true (of_decide_eq_true (by first | (with_reducible assumption) | assumption) : 0 ≤ (gB))
           obtain ⟨g_, lW⟩ : ∃ j_ : Int, (shl .u64 a1 (gB)) = j_ := ⟨_, rfl⟩
           replace H : (if ((bV) / 4294967296) = 0 then (none) else (aI.l0 k bV gB ((bV) / 4294967296) (Go.bits .and .u64 (bV) 4294967295) (Go.bits .or .u64 (iH) (jQ)) ((g_) / 4294967296) (Go.bits .and .u64 (g_) 4294967295) (IntKind.u64.wrap (Int.tdiv (Go.bits .or .u64 (iH) (jQ)) ((bV) / 4294967296))) (IntKind.u64.wrap ((Go.bits .or .u64 (iH) (jQ)) - (IntKind.u64.wrap ((IntKind.u64.wrap (Int.tdiv (Go.bits .or .u64 (iH) (jQ)) ((bV) / 4294967296))) * ((bV) / 4294967296))))))) = some (r1, r2) := by first | (rw [lW] at H; exact H) | (simp only [lW] at H ⊢; exact H)
           (try rw [lW] at A7)
           have Nl : (IntKind.u64.wrap (a1 * 2 ^ min (gB).toNat 64)) = g_ := lW
           have Xg : (gB) ≤ 64 → (IntKind.u64.wrap (a1 * 2 ^ (gB).toNat)) = g_ := r_ lW
           by_cases c18 : ((bV) / 4294967296) = 0
           · rw [if_pos c18] at H
             exact absurd H (by simp)
           · rw [if_neg c18] at H
             have Ad : (((bV) / 4294967296) == 0) = false := beq_eq_false_iff_ne.mpr c18
             have Ac : (((bV) / 4294967296) != 0) = true := bne_iff_ne.mpr c18
             have O9 := aj.mk H
             clear H
             go_enter Try.func112, Try.ntmps112
             go_upto_block 0 with (first | (go_at_call 121; (with_reducible refine (bits_LeadingZeros64.calls a2 t120 _ A7.out).mono ?_); rintro e w' ⟨rfl, ⟨nd, rfl⟩⟩; (try first | exact ⟨rfl, _, World.drewN_drewN _ _ _⟩ | exact ⟨rfl, _, Eq.trans (World.drewN_drewN _ _ _) (congrArg (World.drewN _) (Nat.add_assoc _ _ _))⟩)))
             repeat (go_quiet (first | (go_at_call 121; (with_reducible refine (bits_LeadingZeros64.calls a2 t120 _ A7.out).mono ?_); rintro e w' ⟨rfl, ⟨nd, rfl⟩⟩; (try first | exact ⟨rfl, _, World.drewN_drewN _ _ _⟩ | exact ⟨rfl, _, Eq.trans (World.drewN_drewN _ _ _) (congrArg (World.drewN _) (Nat.add_assoc _ _ _))⟩))); go_upto_block 0 with (first | (go_at_call 121; (with_reducible refine (bits_LeadingZeros64.calls a2 t120 _ A7.out).mono ?_); rintro e w' ⟨rfl, ⟨nd, rfl⟩⟩; (try first | exact ⟨rfl, _, World.drewN_drewN _ _ _⟩ | exact ⟨rfl, _, Eq.trans (World.drewN_drewN _ _ _) (congrArg (World.drewN _) (Nat.add_assoc _ _ _))⟩))))
             (try simp only [Act.put, List.setIfInBounds_toArray, List.set_cons_zero, List.set_cons_succ])
             go_cut [15] (fun v15 wc => ∃ (kq : Nat) (gG : Int), v15 = .int .u64 gG ∧ aj (aI.j2 kq bV gB ((bV) / 4294967296) (Go.bits .and .u64 (bV) 4294967295) (Go.bits .or .u64 (iH) (jQ)) ((g_) / 4294967296) (Go.bits .and .u64 (g_) 4294967295) gG = some (r1, r2)) ∧ aj (kq ≤ k) ∧ bf w wc)
             case first =>
              have H := O9.out
              clear O9
              have H' := aj.mk H
              clear H
              go_wp2
              repeat (go_quiet (fail); try go_wp2)
              go_loopg [15, 16] k (fun kq v15 v16 w' => ∃ (gI : Int) (qI : Int), v15 = .int .u64 gI ∧ v16 = .int .u64 qI ∧ aj (aI.l0 kq bV gB ((bV) / 4294967296) (Go.bits .and .u64 (bV) 4294967295) (Go.bits .or .u64 (iH) (jQ)) ((g_) / 4294967296) (Go.bits .and .u64 (g_) 4294967295) gI qI = some (r1, r2)) ∧ aj (kq ≤ k) ∧ bf w w')
              case atStart => exact ⟨(IntKind.u64.wrap (Int.tdiv (Go.bits .or .u64 (iH) (jQ)) ((bV) / 4294967296))), (IntKind.u64.wrap ((Go.bits .or .u64 (iH) (jQ)) - (IntKind.u64.wrap ((IntKind.u64.wrap (Int.tdiv (Go.bits .or .u64 (iH) (jQ)) ((bV) / 4294967296))) * ((bV) / 4294967296))))), (by first | rfl | (simp; done) | (simp only [← lY, ← oM, ← oL] <;> (first | rfl | simp)) | (simp [*]; done)), (by first | rfl | (simp; done) | (simp only [← lY, ← oM, ← oL] <;> (first | rfl | simp)) | (simp [*]; done)), H', ⟨Nat.le_refl _⟩, by repeat (first | exact bf.refl _ | apply bf.step)⟩
              case round =>
               clear H'
               try clear c1
               try clear p2
               try clear c4
               try clear yJ
               try clear CO
               try clear c5
               try clear uF
               try clear c6
               try clear CJ
               try clear FO
               try clear c9
               try clear FN
               try clear Iq
               try clear c11
               try clear wz
               try clear c14
               try clear rG
               try clear wu
               try clear c16
               try clear xH
               try clear c18
               try clear Ad
               try clear Ac
               obtain ⟨gI, qI, rfl, rfl, HA, AV, ⟨m1, rfl⟩⟩ := hrel
               cases gk with
               | zero => exact absurd HA.out (by simp [aI.l0])
               | succ k1 =>
                 have H := HA.out
                 clear HA
                 simp only [aI.l0] at H
                 have OZ := aj.mk H
                 clear H
                 go_upto_region 17 with (fail)
                 repeat (go_quiet (fail); go_upto_region 17 with (fail))
                 go_cut [78] (fun v78 wc => ∃ (kq : Nat) (xW : Bool), v78 = .bool xW ∧ aj (aI.j1 kq bV gB ((bV) / 4294967296) (Go.bits .and .u64 (bV) 4294967295) (Go.bits .or .u64 (iH) (jQ)) ((g_) / 4294967296) (Go.bits .and .u64 (g_) 4294967295) gI qI xW = some (r1, r2)) ∧ aj (kq ≤ k1) ∧ bf w wc)
                 case first =>
                  have H := OZ.out
                  clear OZ
                  by_cases c21 : gI ≥ 4294967296
                  · rw [if_pos c21] at H
                    have rF : decide (4294967296 ≤ gI) = true := decide_eq_true c21
                    clear c21
                    (first | rw [rF] | (simp only [bK, bU]; rw [rF]) | skip)
                    have H' := aj.mk H
                    clear H
                    go_wp2
                    repeat (go_quiet (fail); try go_wp2)
                    go_meet
                    case rel => exact ⟨_, (true), (by first | rfl | (simp; done) | (simp [*]; done)), H', ⟨by have := AV.out; first | omega | exact Nat.le_refl _⟩, by repeat (first | exact bf.refl _ | apply bf.step)⟩
                  · rw [if_neg c21] at H
                    have rF : decide (4294967296 ≤ gI) = false := decide_eq_false c21
                    clear c21
                    (first | rw [rF] | (simp only [bK, bU]; rw [rF]) | skip)
                    have H' := aj.mk H
                    clear H
                    go_wp2
                    repeat (go_quiet (fail); try go_wp2)
                    go_meet
                    case rel => exact ⟨_, (decide ((IntKind.u64.wrap (gI * (Go.bits .and .u64 (bV) 4294967295))) > (IntKind.u64.wrap ((IntKind.u64.wrap (4294967296 * qI)) + ((g_) / 4294967296))))), (by first | rfl | (simp; done) | (simp only [← lY, ← lW] <;> (first | rfl | simp)) | (simp [*]; done)), H', ⟨by have := AV.out; first | omega | exact Nat.le_refl _⟩, by repeat (first | exact bf.refl _ | apply bf.step)⟩
                 case rest =>
                  clear OZ
                  try clear c1
                  try clear c2
                  try clear p2
                  try clear c4
                  try clear yJ
                  try clear CO
                  try clear c5
                  try clear uF
                  try clear c6
                  try clear CJ
                  try clear FO
                  try clear c9
                  try clear FN
                  try clear Iq
                  try clear c11
                  try clear wz
                  try clear c14
                  try clear rG
                  try clear wu
                  try clear c16
                  try clear xH
                  try clear c18
                  try clear Ad
                  try clear Ac
                  try clear c21
                  try clear rF
                  try clear p2
                  obtain ⟨kq, xW, rfl, HA, KJ, ⟨abP, rfl⟩⟩ := hcut
                  cases kq with
                  | zero => exact absurd HA.out (by simp [aI.j1])
                  | succ Qg =>
                    have H := HA.out
                    clear HA
                    simp only [aI.j1] at H
                    by_cases LD : xW = true
                    · subst LD
                      rw [if_pos rfl] at H
                      by_cases c23 : (IntKind.u64.wrap (qI + ((bV) / 4294967296))) ≥ 4294967296
                      · rw [if_pos c23] at H
                        have DU : decide (4294967296 ≤ (IntKind.u64.wrap (qI + ((bV) / 4294967296)))) = true := decide_eq_true c23
                        clear c23
                        have H' := aj.mk H
                        clear H
                        go_wp2
                        repeat (go_quiet (fail); try go_wp2)
                        go_meet
                        case rel => exact ⟨_, (IntKind.u64.wrap (gI - 1)), (by first | rfl | (simp; done) | (simp [*]; done)), H', ⟨by have := AV.out; have := KJ.out; first | omega | exact Nat.le_refl _⟩, by repeat (first | exact bf.refl _ | apply bf.step)⟩
                      · rw [if_neg c23] at H
                        have DU : decide (4294967296 ≤ (IntKind.u64.wrap (qI + ((bV) / 4294967296)))) = false := decide_eq_false c23
                        clear c23
                        have H' := aj.mk H
                        clear H
                        go_wp2
                        repeat (go_quiet (fail); try go_wp2)
                        go_roundg Qg
                        case measure => have := AV.out; have := KJ.out; omega
                        case rel => exact ⟨(IntKind.u64.wrap (gI - 1)), (IntKind.u64.wrap (qI + ((bV) / 4294967296))), (by first | rfl | (simp; done) | (simp [*]; done)), (by first | rfl | (simp; done) | (simp only [← lY] <;> (first | rfl | simp)) | (simp [*]; done)), H', ⟨by have := AV.out; have := KJ.out; omega⟩, by repeat (first | exact bf.refl _ | apply bf.step)⟩
                    · replace LD := Bool.eq_false_iff.mpr LD
                      subst LD
                      have H1 : (aI.j2 Qg bV gB ((bV) / 4294967296) (Go.bits .and .u64 (bV) 4294967295) (Go.bits .or .u64 (iH) (jQ)) ((g_) / 4294967296) (Go.bits .and .u64 (g_) 4294967295) gI) = some (r1, r2) := by rw [if_neg (show ¬ (false = true) by decide)] at H; exact H
                      clear H
                      have H := H1
                      clear H1
                      have H' := aj.mk H
                      clear H
                      go_wp2
                      repeat (go_quiet (fail); try go_wp2)
                      go_meet
                      case rel => exact ⟨_, (gI), (by first | rfl | (simp; done) | (simp [*]; done)), H', ⟨by have := AV.out; have := KJ.out; first | omega | exact Nat.le_refl _⟩, by repeat (first | exact bf.refl _ | apply bf.step)⟩
             case rest =>
              clear O9
              try clear c1
              try clear c2
              try clear p2
              try clear c4
              try clear yJ
              try clear CO
              try clear c5
              try clear uF
              try clear c6
              try clear CJ
              try clear FO
              try clear c9
              try clear FN
              try clear Iq
              try clear c11
              try clear wz
              try clear c14
              try clear rG
              try clear wu
              try clear c16
              try clear xH
              try clear c18
              try clear Ad
              try clear Ac
              try clear c19
              try clear c21
              try clear rF
              try clear LD
              try clear c23
              try clear DU
              try clear p2
              obtain ⟨kq, gG, rfl, HA, KL, ⟨abQ, rfl⟩⟩ := hcut
              cases kq with
              | zero => exact absurd HA.out (by simp [aI.j2])
              | succ Qh =>
                have H := HA.out
                clear HA
                simp only [aI.j2] at H
                by_cases c24 : ((bV) / 4294967296) = 0
                · rw [if_pos c24] at H
                  exact absurd H (by simp)
                · rw [if_neg c24] at H
                  have DT : (((bV) / 4294967296) == 0) = false := beq_eq_false_iff_ne.mpr c24
                  have DR : (((bV) / 4294967296) != 0) = true := bne_iff_ne.mpr c24
                  have H' := aj.mk H
                  clear H
                  go_wp2
                  repeat (go_quiet (fail); try go_wp2)
                  go_loopg [16, 18] Qh (fun kq v16 v18 w' => ∃ (qH : Int) (jL : Int), v16 = .int .u64 qH ∧ v18 = .int .u64 jL ∧ aj (aI.l1 kq bV gB ((bV) / 4294967296) (Go.bits .and .u64 (bV) 4294967295) (Go.bits .and .u64 (g_) 4294967295) gG qH (IntKind.u64.wrap ((IntKind.u64.wrap ((IntKind.u64.wrap ((Go.bits .or .u64 (iH) (jQ)) * 4294967296)) + ((g_) / 4294967296))) - (IntKind.u64.wrap (gG * bV)))) jL = some (r1, r2)) ∧ aj (kq ≤ Qh) ∧ bf w w')
                  case atStart => exact ⟨(IntKind.u64.wrap ((IntKind.u64.wrap ((IntKind.u64.wrap ((IntKind.u64.wrap ((Go.bits .or .u64 (iH) (jQ)) * 4294967296)) + ((g_) / 4294967296))) - (IntKind.u64.wrap (gG * bV)))) - (IntKind.u64.wrap ((IntKind.u64.wrap (Int.tdiv (IntKind.u64.wrap ((IntKind.u64.wrap ((IntKind.u64.wrap ((Go.bits .or .u64 (iH) (jQ)) * 4294967296)) + ((g_) / 4294967296))) - (IntKind.u64.wrap (gG * bV)))) ((bV) / 4294967296))) * ((bV) / 4294967296))))), (IntKind.u64.wrap (Int.tdiv (IntKind.u64.wrap ((IntKind.u64.wrap ((IntKind.u64.wrap ((Go.bits .or .u64 (iH) (jQ)) * 4294967296)) + ((g_) / 4294967296))) - (IntKind.u64.wrap (gG * bV)))) ((bV) / 4294967296))), (by first | rfl | (simp; done) | (simp only [← lY, ← oM, ← oL, ← lW] <;> (first | rfl | simp)) | (simp [*]; done)), (by first | rfl | (simp; done) | (simp only [← lY, ← oM, ← oL, ← lW] <;> (first | rfl | simp)) | (simp [*]; done)), H', ⟨Nat.le_refl _⟩, by repeat (first | exact bf.refl _ | apply bf.step)⟩
                  case round =>
                   clear H'
                   try clear c1
                   try clear c2
                   try clear p2
                   try clear c4
                   try clear yJ
                   try clear CO
                   try clear c5
                   try clear uF
                   try clear c6
                   try clear CJ
                   try clear FO
                   try clear c9
                   try clear FN
                   try clear Iq
                   try clear c11
                   try clear wz
                   try clear c14
                   try clear rG
                   try clear wu
                   try clear c16
                   try clear xH
                   try clear c18
                   try clear Ad
                   try clear Ac
                   try clear c19
                   try clear c21
                   try clear rF
                   try clear LD
                   try clear c23
                   try clear DU
                   try clear c24
                   try clear DT
                   try clear DR
                   try clear p2
                   obtain ⟨qH, jL, rfl, rfl, HA, OU, ⟨m2, rfl⟩⟩ := hrel
                   cases gk with
                   | zero => exact absurd HA.out (by simp [aI.l1])
                   | succ k2 =>
                     have H := HA.out
                     clear HA
                     simp only [aI.l1] at H
                     have OY := aj.mk H
                     clear H
                     go_upto_region 24 with (fail)
                     repeat (go_quiet (fail); go_upto_region 24 with (fail))
                     go_cut [113] (fun Wq wc => ∃ (kq : Nat) (uM : Bool), Wq = .bool uM ∧ aj (aI.j4 kq bV gB ((bV) / 4294967296) (Go.bits .and .u64 (bV) 4294967295) (Go.bits .and .u64 (g_) 4294967295) gG qH (IntKind.u64.wrap ((IntKind.u64.wrap ((IntKind.u64.wrap ((Go.bits .or .u64 (iH) (jQ)) * 4294967296)) + ((g_) / 4294967296))) - (IntKind.u64.wrap (gG * bV)))) jL uM = some (r1, r2)) ∧ aj (kq ≤ k2) ∧ bf w wc)
                     case first =>
                      have H := OY.out
                      clear OY
                      by_cases N_ : jL ≥ 4294967296
                      · rw [if_pos N_] at H
                        have xG : decide (4294967296 ≤ jL) = true := decide_eq_true N_
                        clear N_
                        (first | rw [xG] | (simp only [bK, bU]; rw [xG]) | skip)
                        have H' := aj.mk H
                        clear H
                        go_wp2
                        repeat (go_quiet (fail); try go_wp2)
                        go_meet
                        case rel => exact ⟨_, (true), (by first | rfl | (simp; done) | (simp [*]; done)), H', ⟨by have := KL.out; have := OU.out; first | omega | exact Nat.le_refl _⟩, by repeat (first | exact bf.refl _ | apply bf.step)⟩
                      · rw [if_neg N_] at H
                        have xG : decide (4294967296 ≤ jL) = false := decide_eq_false N_
                        clear N_
                        (first | rw [xG] | (simp only [bK, bU]; rw [xG]) | skip)
                        have H' := aj.mk H
                        clear H
                        go_wp2
                        repeat (go_quiet (fail); try go_wp2)
                        go_meet
                        case rel => exact ⟨_, (decide ((IntKind.u64.wrap (jL * (Go.bits .and .u64 (bV) 4294967295))) > (IntKind.u64.wrap ((IntKind.u64.wrap (4294967296 * qH)) + (Go.bits .and .u64 (g_) 4294967295))))), (by first | rfl | (simp; done) | (simp only [← lY, ← lW] <;> (first | rfl | simp)) | (simp [*]; done)), H', ⟨by have := KL.out; have := OU.out; first | omega | exact Nat.le_refl _⟩, by repeat (first | exact bf.refl _ | apply bf.step)⟩
                     case rest =>
                      clear OY
                      try clear c1
                      try clear c2
                      try clear p2
                      try clear c4
                      try clear yJ
                      try clear CO
                      try clear c5
                      try clear uF
                      try clear c6
                      try clear CJ
                      try clear FO
                      try clear c9
                      try clear FN
                      try clear Iq
                      try clear c11
                      try clear wz
                      try clear c14
                      try clear rG
                      try clear wu
                      try clear c16
                      try clear xH
                      try clear c18
                      try clear Ad
                      try clear Ac
                      try clear c19
                      try clear c21
                      try clear rF
                      try clear LD
                      try clear c23
                      try clear DU
                      try clear c24
                      try clear DT
                      try clear DR
                      try clear N_
                      try clear xG
                      try clear p2
                      obtain ⟨kq, uM, rfl, HA, TQ, ⟨abO, rfl⟩⟩ := hcut
                      cases kq with
                      | zero => exact absurd HA.out (by simp [aI.j4])
                      | succ WI =>
                        have H := HA.out
                        clear HA
                        simp only [aI.j4] at H
                        by_cases J6 : uM = true
                        · subst J6
                          rw [if_pos rfl] at H
                          by_cases c28 : (IntKind.u64.wrap (qH + ((bV) / 4294967296))) ≥ 4294967296
                          · rw [if_pos c28] at H
                            have QS : decide (4294967296 ≤ (IntKind.u64.wrap (qH + ((bV) / 4294967296)))) = true := decide_eq_true c28
                            clear c28
                            by_cases c29 : 0 ≤ gB
                            · rw [if_pos c29] at H
                              have aai := eq_true c29
                              have aah : decide (0 ≤ gB) = true := decide_eq_true c29
                              clear c29
                              obtain ⟨MS, zJ⟩ : ∃ j_ : Int, (shr .u64 (IntKind.u64.wrap ((IntKind.u64.wrap ((IntKind.u64.wrap ((IntKind.u64.wrap ((IntKind.u64.wrap ((IntKind.u64.wrap ((Go.bits .or .u64 (iH) (jQ)) * 4294967296)) + ((g_) / 4294967296))) - (IntKind.u64.wrap (gG * bV)))) * 4294967296)) + (Go.bits .and .u64 (g_) 4294967295))) - (IntKind.u64.wrap ((IntKind.u64.wrap (jL - 1)) * bV)))) gB) = j_ := ⟨_, rfl⟩
                              replace H : (some (IntKind.u64.wrap ((IntKind.u64.wrap (gG * 4294967296)) + (IntKind.u64.wrap (jL - 1))), MS)) = some (r1, r2) := by first | (rw [zJ] at H; exact H) | (simp only [zJ] at H ⊢; exact H)
                              have Xf : ((IntKind.u64.wrap ((IntKind.u64.wrap ((IntKind.u64.wrap ((IntKind.u64.wrap ((IntKind.u64.wrap ((IntKind.u64.wrap ((Go.bits .or .u64 (iH) (jQ)) * 4294967296)) + ((g_) / 4294967296))) - (IntKind.u64.wrap (gG * bV)))) * 4294967296)) + (Go.bits .and .u64 (g_) 4294967295))) - (IntKind.u64.wrap ((IntKind.u64.wrap (jL - 1)) * bV)))) / 2 ^ min gB.toNat 64) = MS := zJ
                              have Xe : gB ≤ 64 → ((IntKind.u64.wrap ((IntKind.u64.wrap ((IntKind.u64.wrap ((IntKind.u64.wrap ((IntKind.u64.wrap ((IntKind.u64.wrap ((Go.bits .or .u64 (iH) (jQ)) * 4294967296)) + ((g_) / 4294967296))) - (IntKind.u64.wrap (gG * bV)))) * 4294967296)) + (Go.bits .and .u64 (g_) 4294967295))) - (IntKind.u64.wrap ((IntKind.u64.wrap (jL - 1)) * bV)))) / 2 ^ gB.toNat) = MS := rZ zJ
                              simp only [Option.some.injEq, Prod.mk.injEq] at H
                              obtain ⟨rfl, rfl⟩ := H
                              go_wp2
                              repeat (go_quiet (fail); try go_wp2)
                              go_ret2
                              exact ⟨by first | rfl | (simp; done) | (simp only [← Hf, ← lY, ← oM, ← zK, ← oL, ← lW, ← zJ] <;> (first | rfl | simp)) | (simp [*]; done), by repeat (first | exact bf.refl _ | apply bf.step)⟩
                            · rw [if_neg c29] at H
                              exact absurd H (by simp)
                          · rw [if_neg c28] at H
                            have QS : decide (4294967296 ≤ (IntKind.u64.wrap (qH + ((bV) / 4294967296)))) = false := decide_eq_false c28
                            clear c28
                            have H' := aj.mk H
                            clear H
                            go_wp2
                            repeat (go_quiet (fail); try go_wp2)
                            go_roundg WI
                            case measure => have := KL.out; have := OU.out; have := TQ.out; omega
                            case rel => exact ⟨(IntKind.u64.wrap (qH + ((bV) / 4294967296))), (IntKind.u64.wrap (jL - 1)), (by first | rfl | (simp; done) | (simp only [← lY] <;> (first | rfl | simp)) | (simp [*]; done)), (by first | rfl | (simp; done) | (simp [*]; done)), H', ⟨by have := KL.out; have := OU.out; have := TQ.out; omega⟩, by repeat (first | exact bf.refl _ | apply bf.step)⟩
                        · replace J6 := Bool.eq_false_iff.mpr J6
                          subst J6
                          have H1 : (if 0 ≤ gB then (some (IntKind.u64.wrap ((IntKind.u64.wrap (gG * 4294967296)) + jL), shr .u64 (IntKind.u64.wrap ((IntKind.u64.wrap ((IntKind.u64.wrap ((IntKind.u64.wrap ((IntKind.u64.wrap ((IntKind.u64.wrap ((Go.bits .or .u64 (iH) (jQ)) * 4294967296)) + ((g_) / 4294967296))) - (IntKind.u64.wrap (gG * bV)))) * 4294967296)) + (Go.bits .and .u64 (g_) 4294967295))) - (IntKind.u64.wrap (jL * bV)))) gB)) else (none)) = some (r1, r2) := by rw [if_neg (show ¬ (false = true) by decide)] at H; exact H
                          clear H
                          have H := H1
                          clear H1
                          by_cases c31 : 0 ≤ gB
                          · rw [if_pos c31] at H
                            have aag := eq_true c31
                            have aaf : decide (0 ≤ gB) = true := decide_eq_true c31
                            clear c31
                            obtain ⟨MR, zI⟩ : ∃ j_ : Int, (shr .u64 (IntKind.u64.wrap ((IntKind.u64.wrap ((IntKind.u64.wrap ((IntKind.u64.wrap ((IntKind.u64.wrap ((IntKind.u64.wrap ((Go.bits .or .u64 (iH) (jQ)) * 4294967296)) + ((g_) / 4294967296))) - (IntKind.u64.wrap (gG * bV)))) * 4294967296)) + (Go.bits .and .u64 (g_) 4294967295))) - (IntKind.u64.wrap (jL * bV)))) gB) = j_ := ⟨_, rfl⟩
                            replace H : (some (IntKind.u64.wrap ((IntKind.u64.wrap (gG * 4294967296)) + jL), MR)) = some (r1, r2) := by first | (rw [zI] at H; exact H) | (simp only [zI] at H ⊢; exact H)
                            have Xd : ((IntKind.u64.wrap ((IntKind.u64.wrap ((IntKind.u64.wrap ((IntKind.u64.wrap ((IntKind.u64.wrap ((IntKind.u64.wrap ((Go.bits .or .u64 (iH) (jQ)) * 4294967296)) + ((g_) / 4294967296))) - (IntKind.u64.wrap (gG * bV)))) * 4294967296)) + (Go.bits .and .u64 (g_) 4294967295))) - (IntKind.u64.wrap (jL * bV)))) / 2 ^ min gB.toNat 64) = MR := zI
                            have Xc : gB ≤ 64 → ((IntKind.u64.wrap ((IntKind.u64.wrap ((IntKind.u64.wrap ((IntKind.u64.wrap ((IntKind.u64.wrap ((IntKind.u64.wrap ((Go.bits .or .u64 (iH) (jQ)) * 4294967296)) + ((g_) / 4294967296))) - (IntKind.u64.wrap (gG * bV)))) * 4294967296)) + (Go.bits .and .u64 (g_) 4294967295))) - (IntKind.u64.wrap (jL * bV)))) / 2 ^ gB.toNat) = MR := rZ zI
                            simp only [Option.some.injEq, Prod.mk.injEq] at H
                            obtain ⟨rfl, rfl⟩ := H
                            go_wp2
                            repeat (go_quiet (fail); try go_wp2)
                            go_ret2
                            exact ⟨by first | rfl | (simp; done) | (simp only [← Hf, ← lY, ← oM, ← zK, ← oL, ← lW, ← zI] <;> (first | rfl | simp)) | (simp [*]; done), by repeat (first | exact bf.refl _ | apply bf.step)⟩
                          · rw [if_neg c31] at H
                            exact absurd H (by simp)
         · rw [if_neg c14] at H
           exact absurd H (by simp)
       · rw [if_neg c9] at H
         exact absurd H (by simp)
def kL.f (k : Nat) (a0 : Int) (a1 : Int) : Option (Int × Bool) := (a_.f a0 a1).bind fun dR => (if dR.2.1 = 0 then (if dR.1 > 0 then (some (70368744177663, true)) else (if dR.1 < 0 then (some ((-70368744177664), true)) else (some (0, true)))) else ((aU.f dR.1).bind fun t124 => ((aU.f dR.2.1).bind fun t125 => (if (t124 / 1099511627776) ≥ t125 then ((aJ.f 1 0 ((decide (dR.1 < 0)) != (decide (dR.2.1 < 0)))).bind fun rJ => (some (rJ.1, true))) else ((aI.f k (t124 / 1099511627776) (IntKind.u64.wrap (t124 * 16777216)) t125).bind fun dD => (if dD.2 > (IntKind.u64.wrap (t125 - dD.2)) then ((aJ.f 0 (IntKind.u64.wrap (dD.1 + 1)) ((decide (dR.1 < 0)) != (decide (dR.2.1 < 0)))).bind fun iW => (if dR.2.2 = true then (some (iW.1, true)) else (some (iW.1, iW.2)))) else (if dD.2 = (IntKind.u64.wrap (t125 - dD.2)) then (if (Go.bits .and .u64 dD.1 1) = 1 then ((aJ.f 0 (IntKind.u64.wrap (dD.1 + 1)) ((decide (dR.1 < 0)) != (decide (dR.2.1 < 0)))).bind fun iV => (if dR.2.2 = true then (some (iV.1, true)) else (some (iV.1, iV.2)))) else ((aJ.f 0 dD.1 ((decide (dR.1 < 0)) != (decide (dR.2.1 < 0)))).bind fun iU => (if dR.2.2 = true then (some (iU.1, true)) else (some (iU.1, iU.2))))) else ((aJ.f 0 dD.1 ((decide (dR.1 < 0)) != (decide (dR.2.1 < 0)))).bind fun iT => (if dR.2.2 = true then (some (iT.1, true)) else (some (iT.1, iT.2)))))))))))
theorem kL.calls (k : Nat) (a0 : Int) (a1 : Int) (r1 : Int) (r2 : Bool) (w : World) (h : kL.f k a0 a1 = some (r1, r2)) :
 Calls Try.prog 93 #[.int .i64 a0, .int .i64 a1] w fun e w' => e = .returned (.tuple #[.int .i64 r1, .bool r2]) ∧ Below w.heap.size w w' := by
 have HB := aj.mk (Below.refl w.heap.size w)
 have H : ((a_.f a0 a1).bind fun dR => (if dR.2.1 = 0 then (if dR.1 > 0 then (some (70368744177663, true)) else (if dR.1 < 0 then (some ((-70368744177664), true)) else (some (0, true)))) else ((aU.f dR.1).bind fun t124 => ((aU.f dR.2.1).bind fun t125 => (if (t124 / 1099511627776) ≥ t125 then ((aJ.f 1 0 ((decide (dR.1 < 0)) != (decide (dR.2.1 < 0)))).bind fun rJ => (some (rJ.1, true))) else ((aI.f k (t124 / 1099511627776) (IntKind.u64.wrap (t124 * 16777216)) t125).bind fun dD => (if dD.2 > (IntKind.u64.wrap (t125 - dD.2)) then ((aJ.f 0 (IntKind.u64.wrap (dD.1 + 1)) ((decide (dR.1 < 0)) != (decide (dR.2.1 < 0)))).bind fun iW => (if dR.2.2 = true then (some (iW.1, true)) else (some (iW.1, iW.2)))) else (if dD.2 = (IntKind.u64.wrap (t125 - dD.2)) then (if (Go.bits .and .u64 dD.1 1) = 1 then ((aJ.f 0 (IntKind.u64.wrap (dD.1 + 1)) ((decide (dR.1 < 0)) != (decide (dR.2.1 < 0)))).bind fun iV => (if dR.2.2 = true then (some (iV.1, true)) else (some (iV.1, iV.2)))) else ((aJ.f 0 dD.1 ((decide (dR.1 < 0)) != (decide (dR.2.1 < 0)))).bind fun iU => (if dR.2.2 = true then (some (iU.1, true)) else (some (iU.1, iU.2))))) else ((aJ.f 0 dD.1 ((decide (dR.1 < 0)) != (decide (dR.2.1 < 0)))).bind fun iT => (if dR.2.2 = true then (some (iT.1, true)) else (some (iT.1, iT.2)))))))))))) = some (r1, r2) := h
 clear h
 replace H := Option.bind_eq_some_iff.mp H
 obtain ⟨⟨t121, t122, t123⟩, xU, H⟩ := H
 replace H : (if t122 = 0 then (if t121 > 0 then (some (70368744177663, true)) else (if t121 < 0 then (some ((-70368744177664), true)) else (some (0, true)))) else ((aU.f t121).bind fun t124 => ((aU.f t122).bind fun t125 => (if (t124 / 1099511627776) ≥ t125 then ((aJ.f 1 0 ((decide (t121 < 0)) != (decide (t122 < 0)))).bind fun rJ => (some (rJ.1, true))) else ((aI.f k (t124 / 1099511627776) (IntKind.u64.wrap (t124 * 16777216)) t125).bind fun dD => (if dD.2 > (IntKind.u64.wrap (t125 - dD.2)) then ((aJ.f 0 (IntKind.u64.wrap (dD.1 + 1)) ((decide (t121 < 0)) != (decide (t122 < 0)))).bind fun iW => (if t123 = true then (some (iW.1, true)) else (some (iW.1, iW.2)))) else (if dD.2 = (IntKind.u64.wrap (t125 - dD.2)) then (if (Go.bits .and .u64 dD.1 1) = 1 then ((aJ.f 0 (IntKind.u64.wrap (dD.1 + 1)) ((decide (t121 < 0)) != (decide (t122 < 0)))).bind fun iV => (if t123 = true then (some (iV.1, true)) else (some (iV.1, iV.2)))) else ((aJ.f 0 dD.1 ((decide (t121 < 0)) != (decide (t122 < 0)))).bind fun iU => (if t123 = true then (some (iU.1, true)) else (some (iU.1, iU.2))))) else ((aJ.f 0 dD.1 ((decide (t121 < 0)) != (decide (t122 < 0)))).bind fun iT => (if t123 = true then (some (iT.1, true)) else (some (iT.1, iT.2))))))))))) = some (r1, r2) := H
 have A3 := aj.mk xU
 clear xU
 by_cases c4 : t122 = 0
 · rw [if_pos c4] at H
   have yJ : (t122 == 0) = true := beq_iff_eq.mpr c4
   have CO : (t122 != 0) = false := bne_eq_false_iff_eq.mpr c4
   clear c4
   by_cases c5 : t121 > 0
   · rw [if_pos c5] at H
     have uF : decide (0 < t121) = true := decide_eq_true c5
     clear c5
     simp only [Option.some.injEq, Prod.mk.injEq] at H
     obtain ⟨rfl, rfl⟩ := H
     go_enter Try.func93, Try.ntmps93
     go_wp2_with (first | ((with_reducible refine az (f := 95) rfl ?_); refine aT (some 21) rfl rfl Try.func95 (by kernel_rfl) rfl #[.int .i64 a0, .int .i64 a1] rfl (by (try simp only [List.map_toArray, List.map_cons, List.map_nil]); first | done | rfl | (simp only [List.length_drop, List.length_take]; rfl)) ?_; (with_reducible refine (a_.calls a0 a1 t121 t122 t123 _ A3.out).mono ?_); rintro e w6 ⟨rfl, hb⟩; refine ⟨_, rfl, ?_⟩; have bu := aj.mk (aO (by repeat (first | (with_reducible first | exact HB.out | apply ak | apply ah | apply au) | exact HB.out)) hb); clear HB; have HB := bu; clear bu; (try clear hb); (try clear hb2); (try clear hk); (try clear hi)))
     go_ret2
     exact ⟨by first | rfl | (simp [aN, aK] <;> rfl) | (simp [*, aN, aK] <;> rfl), by repeat (first | (with_reducible first | exact HB.out | apply ak | apply ah | apply au) | exact HB.out)⟩
   · rw [if_neg c5] at H
     have uF : decide (0 < t121) = false := decide_eq_false c5
     clear c5
     by_cases c7 : t121 < 0
     · rw [if_pos c7] at H
       have uD : decide (t121 < 0) = true := decide_eq_true c7
       clear c7
       simp only [Option.some.injEq, Prod.mk.injEq] at H
       obtain ⟨rfl, rfl⟩ := H
       go_enter Try.func93, Try.ntmps93
       go_wp2_with (first | ((with_reducible refine az (f := 95) rfl ?_); refine aT (some 21) rfl rfl Try.func95 (by kernel_rfl) rfl #[.int .i64 a0, .int .i64 a1] rfl (by (try simp only [List.map_toArray, List.map_cons, List.map_nil]); first | done | rfl | (simp only [List.length_drop, List.length_take]; rfl)) ?_; (with_reducible refine (a_.calls a0 a1 t121 t122 t123 _ A3.out).mono ?_); rintro e w8 ⟨rfl, hb⟩; refine ⟨_, rfl, ?_⟩; have bu := aj.mk (aO (by repeat (first | (with_reducible first | exact HB.out | apply ak | apply ah | apply au) | exact HB.out)) hb); clear HB; have HB := bu; clear bu; (try clear hb); (try clear hb2); (try clear hk); (try clear hi)))
       go_ret2
       exact ⟨by first | rfl | (simp [aN, aK] <;> rfl) | (simp [*, aN, aK] <;> rfl), by repeat (first | (with_reducible first | exact HB.out | apply ak | apply ah | apply au) | exact HB.out)⟩
     · rw [if_neg c7] at H
       have uD : decide (t121 < 0) = false := decide_eq_false c7
       clear c7
       simp only [Option.some.injEq, Prod.mk.injEq] at H
       obtain ⟨rfl, rfl⟩ := H
       go_enter Try.func93, Try.ntmps93
       go_wp2_with (first | ((with_reducible refine az (f := 95) rfl ?_); refine aT (some 21) rfl rfl Try.func95 (by kernel_rfl) rfl #[.int .i64 a0, .int .i64 a1] rfl (by (try simp only [List.map_toArray, List.map_cons, List.map_nil]); first | done | rfl | (simp only [List.length_drop, List.length_take]; rfl)) ?_; (with_reducible refine (a_.calls a0 a1 t121 t122 t123 _ A3.out).mono ?_); rintro e w9 ⟨rfl, hb⟩; refine ⟨_, rfl, ?_⟩; have bu := aj.mk (aO (by repeat (first | (with_reducible first | exact HB.out | apply ak | apply ah | apply au) | exact HB.out)) hb); clear HB; have HB := bu; clear bu; (try clear hb); (try clear hb2); (try clear hk); (try clear hi)))
       go_ret2
       exact ⟨by first | rfl | (simp [aN, aK] <;> rfl) | (simp [*, aN, aK] <;> rfl), by repeat (first | (with_reducible first | exact HB.out | apply ak | apply ah | apply au) | exact HB.out)⟩
 · rw [if_neg c4] at H
   have yJ : (t122 == 0) = false := beq_eq_false_iff_ne.mpr c4
   have CO : (t122 != 0) = true := bne_iff_ne.mpr c4
   replace H := Option.bind_eq_some_iff.mp H
   obtain ⟨t124, UA, H⟩ := H
   replace H : ((aU.f t122).bind fun t125 => (if (t124 / 1099511627776) ≥ t125 then ((aJ.f 1 0 ((decide (t121 < 0)) != (decide (t122 < 0)))).bind fun rJ => (some (rJ.1, true))) else ((aI.f k (t124 / 1099511627776) (IntKind.u64.wrap (t124 * 16777216)) t125).bind fun dD => (if dD.2 > (IntKind.u64.wrap (t125 - dD.2)) then ((aJ.f 0 (IntKind.u64.wrap (dD.1 + 1)) ((decide (t121 < 0)) != (decide (t122 < 0)))).bind fun iW => (if t123 = true then (some (iW.1, true)) else (some (iW.1, iW.2)))) else (if dD.2 = (IntKind.u64.wrap (t125 - dD.2)) then (if (Go.bits .and .u64 dD.1 1) = 1 then ((aJ.f 0 (IntKind.u64.wrap (dD.1 + 1)) ((decide (t121 < 0)) != (decide (t122 < 0)))).bind fun iV => (if t123 = true then (some (iV.1, true)) else (some (iV.1, iV.2)))) else ((aJ.f 0 dD.1 ((decide (t121 < 0)) != (decide (t122 < 0)))).bind fun iU => (if t123 = true then (some (iU.1, true)) else (some (iU.1, iU.2))))) else ((aJ.f 0 dD.1 ((decide (t121 < 0)) != (decide (t122 < 0)))).bind fun iT => (if t123 = true then (some (iT.1, true)) else (some (iT.1, iT.2))))))))) = some (r1, r2) := H
   have KP := aj.mk UA
   clear UA
   replace H := Option.bind_eq_some_iff.mp H
   obtain ⟨t125, Uz, H⟩ := H
   replace H : (if (t124 / 1099511627776) ≥ t125 then ((aJ.f 1 0 ((decide (t121 < 0)) != (decide (t122 < 0)))).bind fun rJ => (some (rJ.1, true))) else ((aI.f k (t124 / 1099511627776) (IntKind.u64.wrap (t124 * 16777216)) t125).bind fun dD => (if dD.2 > (IntKind.u64.wrap (t125 - dD.2)) then ((aJ.f 0 (IntKind.u64.wrap (dD.1 + 1)) ((decide (t121 < 0)) != (decide (t122 < 0)))).bind fun iW => (if t123 = true then (some (iW.1, true)) else (some (iW.1, iW.2)))) else (if dD.2 = (IntKind.u64.wrap (t125 - dD.2)) then (if (Go.bits .and .u64 dD.1 1) = 1 then ((aJ.f 0 (IntKind.u64.wrap (dD.1 + 1)) ((decide (t121 < 0)) != (decide (t122 < 0)))).bind fun iV => (if t123 = true then (some (iV.1, true)) else (some (iV.1, iV.2)))) else ((aJ.f 0 dD.1 ((decide (t121 < 0)) != (decide (t122 < 0)))).bind fun iU => (if t123 = true then (some (iU.1, true)) else (some (iU.1, iU.2))))) else ((aJ.f 0 dD.1 ((decide (t121 < 0)) != (decide (t122 < 0)))).bind fun iT => (if t123 = true then (some (iT.1, true)) else (some (iT.1, iT.2)))))))) = some (r1, r2) := H
   have KO := aj.mk Uz
   clear Uz
   by_cases c12 : (t124 / 1099511627776) ≥ t125
   · rw [if_pos c12] at H
     have QY : decide (t125 ≤ (t124 / 1099511627776)) = true := decide_eq_true c12
     clear c12
     replace H := Option.bind_eq_some_iff.mp H
     obtain ⟨⟨t126, t127⟩, Uy, H⟩ := H
     replace H : (some (t126, true)) = some (r1, r2) := H
     have A13 := aj.mk Uy
     clear Uy
     simp only [Option.some.injEq, Prod.mk.injEq] at H
     obtain ⟨rfl, rfl⟩ := H
     go_enter Try.func93, Try.ntmps93
     go_wp2_with (first | ((with_reducible refine az (f := 95) rfl ?_); refine aT (some 21) rfl rfl Try.func95 (by kernel_rfl) rfl #[.int .i64 a0, .int .i64 a1] rfl (by (try simp only [List.map_toArray, List.map_cons, List.map_nil]); first | done | rfl | (simp only [List.length_drop, List.length_take]; rfl)) ?_; (with_reducible refine (a_.calls a0 a1 t121 t122 t123 _ A3.out).mono ?_); rintro e PU ⟨rfl, hb⟩; refine ⟨_, rfl, ?_⟩; have bu := aj.mk (aO (by repeat (first | (with_reducible first | exact HB.out | apply ak | apply ah | apply au) | exact HB.out)) hb); clear HB; have HB := bu; clear bu; (try clear hb); (try clear hb2); (try clear hk); (try clear hi)) | ((with_reducible refine az (f := 97) rfl ?_); refine aT (some 39) rfl rfl Try.func97 (by kernel_rfl) rfl #[.int .i64 t121] rfl (by (try simp only [List.map_toArray, List.map_cons, List.map_nil]); first | done | rfl | (simp only [List.length_drop, List.length_take]; rfl)) ?_; (with_reducible refine (aU.calls t121 t124 _ KP.out).mono ?_); rintro e w' ⟨rfl, ⟨nd, rfl⟩⟩; refine ⟨_, rfl, ?_⟩) | ((with_reducible refine az (f := 97) rfl ?_); refine aT (some 41) rfl rfl Try.func97 (by kernel_rfl) rfl #[.int .i64 t122] rfl (by (try simp only [List.map_toArray, List.map_cons, List.map_nil]); first | done | rfl | (simp only [List.length_drop, List.length_take]; rfl)) ?_; (with_reducible refine (aU.calls t122 t125 _ KO.out).mono ?_); rintro e w' ⟨rfl, ⟨nd, rfl⟩⟩; refine ⟨_, rfl, ?_⟩) | ((with_reducible refine az (f := 98) rfl ?_); refine aT (some 51) rfl rfl Try.func98 (by kernel_rfl) rfl #[.int .u64 1, .int .u64 0, .bool ((decide (t121 < 0)) != (decide (t122 < 0)))] rfl (by (try simp only [List.map_toArray, List.map_cons, List.map_nil]); first | done | rfl | (simp only [List.length_drop, List.length_take]; rfl)) ?_; (with_reducible refine (aJ.calls 1 0 ((decide (t121 < 0)) != (decide (t122 < 0))) t126 t127 _ A13.out).mono ?_); rintro e Zm ⟨rfl, hb⟩; refine ⟨_, rfl, ?_⟩; have bu := aj.mk (aO (by repeat (first | (with_reducible first | exact HB.out | apply ak | apply ah | apply au) | exact HB.out)) hb); clear HB; have HB := bu; clear bu; (try clear hb); (try clear hb2); (try clear hk); (try clear hi)))
     go_ret2
     exact ⟨by first | rfl | (simp [aN, aK] <;> rfl) | (simp [*, aN, aK] <;> rfl), by repeat (first | (with_reducible first | exact HB.out | apply ak | apply ah | apply au) | exact HB.out)⟩
   · rw [if_neg c12] at H
     have QY : decide (t125 ≤ (t124 / 1099511627776)) = false := decide_eq_false c12
     clear c12
     replace H := Option.bind_eq_some_iff.mp H
     obtain ⟨⟨t128, t129⟩, I4, H⟩ := H
     replace H : (if t129 > (IntKind.u64.wrap (t125 - t129)) then ((aJ.f 0 (IntKind.u64.wrap (t128 + 1)) ((decide (t121 < 0)) != (decide (t122 < 0)))).bind fun iW => (if t123 = true then (some (iW.1, true)) else (some (iW.1, iW.2)))) else (if t129 = (IntKind.u64.wrap (t125 - t129)) then (if (Go.bits .and .u64 t128 1) = 1 then ((aJ.f 0 (IntKind.u64.wrap (t128 + 1)) ((decide (t121 < 0)) != (decide (t122 < 0)))).bind fun iV => (if t123 = true then (some (iV.1, true)) else (some (iV.1, iV.2)))) else ((aJ.f 0 t128 ((decide (t121 < 0)) != (decide (t122 < 0)))).bind fun iU => (if t123 = true then (some (iU.1, true)) else (some (iU.1, iU.2))))) else ((aJ.f 0 t128 ((decide (t121 < 0)) != (decide (t122 < 0)))).bind fun iT => (if t123 = true then (some (iT.1, true)) else (some (iT.1, iT.2)))))) = some (r1, r2) := H
     have I5 := aj.mk I4
     clear I4
     by_cases c17 : t129 > (IntKind.u64.wrap (t125 - t129))
     · rw [if_pos c17] at H
       have QV : decide ((IntKind.u64.wrap (t125 - t129)) < t129) = true := decide_eq_true c17
       clear c17
       replace H := Option.bind_eq_some_iff.mp H
       obtain ⟨⟨t130, t131⟩, Ux, H⟩ := H
       replace H : (if t123 = true then (some (t130, true)) else (some (t130, t131))) = some (r1, r2) := H
       have pW := aj.mk Ux
       clear Ux
       by_cases c19 : t123 = true
       · subst c19
         rw [if_pos rfl] at H
         simp only [Option.some.injEq, Prod.mk.injEq] at H
         obtain ⟨rfl, rfl⟩ := H
         go_enter Try.func93, Try.ntmps93
         go_wp2_with (first | ((with_reducible refine az (f := 95) rfl ?_); refine aT (some 21) rfl rfl Try.func95 (by kernel_rfl) rfl #[.int .i64 a0, .int .i64 a1] rfl (by (try simp only [List.map_toArray, List.map_cons, List.map_nil]); first | done | rfl | (simp only [List.length_drop, List.length_take]; rfl)) ?_; (with_reducible refine (a_.calls a0 a1 t121 t122 true _ A3.out).mono ?_); rintro e w20 ⟨rfl, hb⟩; refine ⟨_, rfl, ?_⟩; have bu := aj.mk (aO (by repeat (first | (with_reducible first | exact HB.out | apply ak | apply ah | apply au) | exact HB.out)) hb); clear HB; have HB := bu; clear bu; (try clear hb); (try clear hb2); (try clear hk); (try clear hi)) | ((with_reducible refine az (f := 97) rfl ?_); refine aT (some 39) rfl rfl Try.func97 (by kernel_rfl) rfl #[.int .i64 t121] rfl (by (try simp only [List.map_toArray, List.map_cons, List.map_nil]); first | done | rfl | (simp only [List.length_drop, List.length_take]; rfl)) ?_; (with_reducible refine (aU.calls t121 t124 _ KP.out).mono ?_); rintro e w' ⟨rfl, ⟨nd, rfl⟩⟩; refine ⟨_, rfl, ?_⟩) | ((with_reducible refine az (f := 97) rfl ?_); refine aT (some 41) rfl rfl Try.func97 (by kernel_rfl) rfl #[.int .i64 t122] rfl (by (try simp only [List.map_toArray, List.map_cons, List.map_nil]); first | done | rfl | (simp only [List.length_drop, List.length_take]; rfl)) ?_; (with_reducible refine (aU.calls t122 t125 _ KO.out).mono ?_); rintro e w' ⟨rfl, ⟨nd, rfl⟩⟩; refine ⟨_, rfl, ?_⟩) | ((with_reducible refine az (f := 112) rfl ?_); refine aT (some 59) rfl rfl Try.func112 (by kernel_rfl) rfl #[.int .u64 (t124 / 1099511627776), .int .u64 (IntKind.u64.wrap (t124 * 16777216)), .int .u64 t125] rfl (by (try simp only [List.map_toArray, List.map_cons, List.map_nil]); first | done | rfl | (simp only [List.length_drop, List.length_take]; rfl)) ?_; (with_reducible refine (aI.calls k (t124 / 1099511627776) (IntKind.u64.wrap (t124 * 16777216)) t125 t128 t129 _ I5.out).mono ?_); rintro e w' ⟨rfl, ⟨nd, rfl⟩⟩; refine ⟨_, rfl, ?_⟩) | ((with_reducible refine az (f := 98) rfl ?_); refine aT (some 84) rfl rfl Try.func98 (by kernel_rfl) rfl #[.int .u64 0, .int .u64 (IntKind.u64.wrap (t128 + 1)), .bool ((decide (t121 < 0)) != (decide (t122 < 0)))] rfl (by (try simp only [List.map_toArray, List.map_cons, List.map_nil]); first | done | rfl | (simp only [List.length_drop, List.length_take]; rfl)) ?_; (with_reducible refine (aJ.calls 0 (IntKind.u64.wrap (t128 + 1)) ((decide (t121 < 0)) != (decide (t122 < 0))) t130 t131 _ pW.out).mono ?_); rintro e KR ⟨rfl, hb⟩; refine ⟨_, rfl, ?_⟩; have bu := aj.mk (aO (by repeat (first | (with_reducible first | exact HB.out | apply ak | apply ah | apply au) | exact HB.out)) hb); clear HB; have HB := bu; clear bu; (try clear hb); (try clear hb2); (try clear hk); (try clear hi)))
         go_ret2
         exact ⟨by first | rfl | (simp [aN, aK] <;> rfl) | (simp [*, aN, aK] <;> rfl), by repeat (first | (with_reducible first | exact HB.out | apply ak | apply ah | apply au) | exact HB.out)⟩
       · replace c19 := Bool.eq_false_iff.mpr c19
         subst c19
         have H1 : (some (t130, t131)) = some (r1, r2) := by rw [if_neg (show ¬ (false = true) by decide)] at H; exact H
         clear H
         have H := H1
         clear H1
         simp only [Option.some.injEq, Prod.mk.injEq] at H
         obtain ⟨rfl, rfl⟩ := H
         go_enter Try.func93, Try.ntmps93
         go_wp2_with (first | ((with_reducible refine az (f := 95) rfl ?_); refine aT (some 21) rfl rfl Try.func95 (by kernel_rfl) rfl #[.int .i64 a0, .int .i64 a1] rfl (by (try simp only [List.map_toArray, List.map_cons, List.map_nil]); first | done | rfl | (simp only [List.length_drop, List.length_take]; rfl)) ?_; (with_reducible refine (a_.calls a0 a1 t121 t122 false _ A3.out).mono ?_); rintro e Wp ⟨rfl, hb⟩; refine ⟨_, rfl, ?_⟩; have bu := aj.mk (aO (by repeat (first | (with_reducible first | exact HB.out | apply ak | apply ah | apply au) | exact HB.out)) hb); clear HB; have HB := bu; clear bu; (try clear hb); (try clear hb2); (try clear hk); (try clear hi)) | ((with_reducible refine az (f := 97) rfl ?_); refine aT (some 39) rfl rfl Try.func97 (by kernel_rfl) rfl #[.int .i64 t121] rfl (by (try simp only [List.map_toArray, List.map_cons, List.map_nil]); first | done | rfl | (simp only [List.length_drop, List.length_take]; rfl)) ?_; (with_reducible refine (aU.calls t121 t124 _ KP.out).mono ?_); rintro e w' ⟨rfl, ⟨nd, rfl⟩⟩; refine ⟨_, rfl, ?_⟩) | ((with_reducible refine az (f := 97) rfl ?_); refine aT (some 41) rfl rfl Try.func97 (by kernel_rfl) rfl #[.int .i64 t122] rfl (by (try simp only [List.map_toArray, List.map_cons, List.map_nil]); first | done | rfl | (simp only [List.length_drop, List.length_take]; rfl)) ?_; (with_reducible refine (aU.calls t122 t125 _ KO.out).mono ?_); rintro e w' ⟨rfl, ⟨nd, rfl⟩⟩; refine ⟨_, rfl, ?_⟩) | ((with_reducible refine az (f := 112) rfl ?_); refine aT (some 59) rfl rfl Try.func112 (by kernel_rfl) rfl #[.int .u64 (t124 / 1099511627776), .int .u64 (IntKind.u64.wrap (t124 * 16777216)), .int .u64 t125] rfl (by (try simp only [List.map_toArray, List.map_cons, List.map_nil]); first | done | rfl | (simp only [List.length_drop, List.length_take]; rfl)) ?_; (with_reducible refine (aI.calls k (t124 / 1099511627776) (IntKind.u64.wrap (t124 * 16777216)) t125 t128 t129 _ I5.out).mono ?_); rintro e w' ⟨rfl, ⟨nd, rfl⟩⟩; refine ⟨_, rfl, ?_⟩) | ((with_reducible refine az (f := 98) rfl ?_); refine aT (some 84) rfl rfl Try.func98 (by kernel_rfl) rfl #[.int .u64 0, .int .u64 (IntKind.u64.wrap (t128 + 1)), .bool ((decide (t121 < 0)) != (decide (t122 < 0)))] rfl (by (try simp only [List.map_toArray, List.map_cons, List.map_nil]); first | done | rfl | (simp only [List.length_drop, List.length_take]; rfl)) ?_; (with_reducible refine (aJ.calls 0 (IntKind.u64.wrap (t128 + 1)) ((decide (t121 < 0)) != (decide (t122 < 0))) t130 t131 _ pW.out).mono ?_); rintro e Wn ⟨rfl, hb⟩; refine ⟨_, rfl, ?_⟩; have bu := aj.mk (aO (by repeat (first | (with_reducible first | exact HB.out | apply ak | apply ah | apply au) | exact HB.out)) hb); clear HB; have HB := bu; clear bu; (try clear hb); (try clear hb2); (try clear hk); (try clear hi)))
         go_ret2
         exact ⟨by first | rfl | (simp [aN, aK] <;> rfl) | (simp [*, aN, aK] <;> rfl), by repeat (first | (with_reducible first | exact HB.out | apply ak | apply ah | apply au) | exact HB.out)⟩
     · rw [if_neg c17] at H
       have QV : decide ((IntKind.u64.wrap (t125 - t129)) < t129) = false := decide_eq_false c17
       clear c17
       by_cases c24 : t129 = (IntKind.u64.wrap (t125 - t129))
       · rw [if_pos c24] at H
         have DT : (t129 == (IntKind.u64.wrap (t125 - t129))) = true := beq_iff_eq.mpr c24
         have DR : (t129 != (IntKind.u64.wrap (t125 - t129))) = false := bne_eq_false_iff_eq.mpr c24
         clear c24
         by_cases c25 : (Go.bits .and .u64 t128 1) = 1
         · rw [if_pos c25] at H
           have QU : ((Go.bits .and .u64 t128 1) == 1) = true := beq_iff_eq.mpr c25
           have QT : ((Go.bits .and .u64 t128 1) != 1) = false := bne_eq_false_iff_eq.mpr c25
           clear c25
           replace H := Option.bind_eq_some_iff.mp H
           obtain ⟨⟨t132, t133⟩, Uu, H⟩ := H
           replace H : (if t123 = true then (some (t132, true)) else (some (t132, t133))) = some (r1, r2) := H
           have A26 := aj.mk Uu
           clear Uu
           by_cases J6 : t123 = true
           · subst J6
             rw [if_pos rfl] at H
             simp only [Option.some.injEq, Prod.mk.injEq] at H
             obtain ⟨rfl, rfl⟩ := H
             go_enter Try.func93, Try.ntmps93
             go_wp2_with (first | ((with_reducible refine az (f := 95) rfl ?_); refine aT (some 21) rfl rfl Try.func95 (by kernel_rfl) rfl #[.int .i64 a0, .int .i64 a1] rfl (by (try simp only [List.map_toArray, List.map_cons, List.map_nil]); first | done | rfl | (simp only [List.length_drop, List.length_take]; rfl)) ?_; (with_reducible refine (a_.calls a0 a1 t121 t122 true _ A3.out).mono ?_); rintro e w28 ⟨rfl, hb⟩; refine ⟨_, rfl, ?_⟩; have bu := aj.mk (aO (by repeat (first | (with_reducible first | exact HB.out | apply ak | apply ah | apply au) | exact HB.out)) hb); clear HB; have HB := bu; clear bu; (try clear hb); (try clear hb2); (try clear hk); (try clear hi)) | ((with_reducible refine az (f := 97) rfl ?_); refine aT (some 39) rfl rfl Try.func97 (by kernel_rfl) rfl #[.int .i64 t121] rfl (by (try simp only [List.map_toArray, List.map_cons, List.map_nil]); first | done | rfl | (simp only [List.length_drop, List.length_take]; rfl)) ?_; (with_reducible refine (aU.calls t121 t124 _ KP.out).mono ?_); rintro e w' ⟨rfl, ⟨nd, rfl⟩⟩; refine ⟨_, rfl, ?_⟩) | ((with_reducible refine az (f := 97) rfl ?_); refine aT (some 41) rfl rfl Try.func97 (by kernel_rfl) rfl #[.int .i64 t122] rfl (by (try simp only [List.map_toArray, List.map_cons, List.map_nil]); first | done | rfl | (simp only [List.length_drop, List.length_take]; rfl)) ?_; (with_reducible refine (aU.calls t122 t125 _ KO.out).mono ?_); rintro e w' ⟨rfl, ⟨nd, rfl⟩⟩; refine ⟨_, rfl, ?_⟩) | ((with_reducible refine az (f := 112) rfl ?_); refine aT (some 59) rfl rfl Try.func112 (by kernel_rfl) rfl #[.int .u64 (t124 / 1099511627776), .int .u64 (IntKind.u64.wrap (t124 * 16777216)), .int .u64 t125] rfl (by (try simp only [List.map_toArray, List.map_cons, List.map_nil]); first | done | rfl | (simp only [List.length_drop, List.length_take]; rfl)) ?_; (with_reducible refine (aI.calls k (t124 / 1099511627776) (IntKind.u64.wrap (t124 * 16777216)) t125 t128 t129 _ I5.out).mono ?_); rintro e w' ⟨rfl, ⟨nd, rfl⟩⟩; refine ⟨_, rfl, ?_⟩) | ((with_reducible refine az (f := 98) rfl ?_); refine aT (some 84) rfl rfl Try.func98 (by kernel_rfl) rfl #[.int .u64 0, .int .u64 (IntKind.u64.wrap (t128 + 1)), .bool ((decide (t121 < 0)) != (decide (t122 < 0)))] rfl (by (try simp only [List.map_toArray, List.map_cons, List.map_nil]); first | done | rfl | (simp only [List.length_drop, List.length_take]; rfl)) ?_; (with_reducible refine (aJ.calls 0 (IntKind.u64.wrap (t128 + 1)) ((decide (t121 < 0)) != (decide (t122 < 0))) t132 t133 _ A26.out).mono ?_); rintro e w29 ⟨rfl, hb⟩; refine ⟨_, rfl, ?_⟩; have bu := aj.mk (aO (by repeat (first | (with_reducible first | exact HB.out | apply ak | apply ah | apply au) | exact HB.out)) hb); clear HB; have HB := bu; clear bu; (try clear hb); (try clear hb2); (try clear hk); (try clear hi)))
             go_ret2
             exact ⟨by first | rfl | (simp [aN, aK] <;> rfl) | (simp [*, aN, aK] <;> rfl), by repeat (first | (with_reducible first | exact HB.out | apply ak | apply ah | apply au) | exact HB.out)⟩
           · replace J6 := Bool.eq_false_iff.mpr J6
             subst J6
             have H1 : (some (t132, t133)) = some (r1, r2) := by rw [if_neg (show ¬ (false = true) by decide)] at H; exact H
             clear H
             have H := H1
             clear H1
             simp only [Option.some.injEq, Prod.mk.injEq] at H
             obtain ⟨rfl, rfl⟩ := H
             go_enter Try.func93, Try.ntmps93
             go_wp2_with (first | ((with_reducible refine az (f := 95) rfl ?_); refine aT (some 21) rfl rfl Try.func95 (by kernel_rfl) rfl #[.int .i64 a0, .int .i64 a1] rfl (by (try simp only [List.map_toArray, List.map_cons, List.map_nil]); first | done | rfl | (simp only [List.length_drop, List.length_take]; rfl)) ?_; (with_reducible refine (a_.calls a0 a1 t121 t122 false _ A3.out).mono ?_); rintro e w30 ⟨rfl, hb⟩; refine ⟨_, rfl, ?_⟩; have bu := aj.mk (aO (by repeat (first | (with_reducible first | exact HB.out | apply ak | apply ah | apply au) | exact HB.out)) hb); clear HB; have HB := bu; clear bu; (try clear hb); (try clear hb2); (try clear hk); (try clear hi)) | ((with_reducible refine az (f := 97) rfl ?_); refine aT (some 39) rfl rfl Try.func97 (by kernel_rfl) rfl #[.int .i64 t121] rfl (by (try simp only [List.map_toArray, List.map_cons, List.map_nil]); first | done | rfl | (simp only [List.length_drop, List.length_take]; rfl)) ?_; (with_reducible refine (aU.calls t121 t124 _ KP.out).mono ?_); rintro e w' ⟨rfl, ⟨nd, rfl⟩⟩; refine ⟨_, rfl, ?_⟩) | ((with_reducible refine az (f := 97) rfl ?_); refine aT (some 41) rfl rfl Try.func97 (by kernel_rfl) rfl #[.int .i64 t122] rfl (by (try simp only [List.map_toArray, List.map_cons, List.map_nil]); first | done | rfl | (simp only [List.length_drop, List.length_take]; rfl)) ?_; (with_reducible refine (aU.calls t122 t125 _ KO.out).mono ?_); rintro e w' ⟨rfl, ⟨nd, rfl⟩⟩; refine ⟨_, rfl, ?_⟩) | ((with_reducible refine az (f := 112) rfl ?_); refine aT (some 59) rfl rfl Try.func112 (by kernel_rfl) rfl #[.int .u64 (t124 / 1099511627776), .int .u64 (IntKind.u64.wrap (t124 * 16777216)), .int .u64 t125] rfl (by (try simp only [List.map_toArray, List.map_cons, List.map_nil]); first | done | rfl | (simp only [List.length_drop, List.length_take]; rfl)) ?_; (with_reducible refine (aI.calls k (t124 / 1099511627776) (IntKind.u64.wrap (t124 * 16777216)) t125 t128 t129 _ I5.out).mono ?_); rintro e w' ⟨rfl, ⟨nd, rfl⟩⟩; refine ⟨_, rfl, ?_⟩) | ((with_reducible refine az (f := 98) rfl ?_); refine aT (some 84) rfl rfl Try.func98 (by kernel_rfl) rfl #[.int .u64 0, .int .u64 (IntKind.u64.wrap (t128 + 1)), .bool ((decide (t121 < 0)) != (decide (t122 < 0)))] rfl (by (try simp only [List.map_toArray, List.map_cons, List.map_nil]); first | done | rfl | (simp only [List.length_drop, List.length_take]; rfl)) ?_; (with_reducible refine (aJ.calls 0 (IntKind.u64.wrap (t128 + 1)) ((decide (t121 < 0)) != (decide (t122 < 0))) t132 t133 _ A26.out).mono ?_); rintro e w31 ⟨rfl, hb⟩; refine ⟨_, rfl, ?_⟩; have bu := aj.mk (aO (by repeat (first | (with_reducible first | exact HB.out | apply ak | apply ah | apply au) | exact HB.out)) hb); clear HB; have HB := bu; clear bu; (try clear hb); (try clear hb2); (try clear hk); (try clear hi)))
             go_ret2
             exact ⟨by first | rfl | (simp [aN, aK] <;> rfl) | (simp [*, aN, aK] <;> rfl), by repeat (first | (with_reducible first | exact HB.out | apply ak | apply ah | apply au) | exact HB.out)⟩
         · rw [if_neg c25] at H
           have QU : ((Go.bits .and .u64 t128 1) == 1) = false := beq_eq_false_iff_ne.mpr c25
           have QT : ((Go.bits .and .u64 t128 1) != 1) = true := bne_iff_ne.mpr c25
           replace H := Option.bind_eq_some_iff.mp H
           obtain ⟨⟨t134, t135⟩, Us, H⟩ := H
           replace H : (if t123 = true then (some (t134, true)) else (some (t134, t135))) = some (r1, r2) := H
           have A32 := aj.mk Us
           clear Us
           by_cases VK : t123 = true
           · subst VK
             rw [if_pos rfl] at H
             simp only [Option.some.injEq, Prod.mk.injEq] at H
             obtain ⟨rfl, rfl⟩ := H
             go_enter Try.func93, Try.ntmps93
             go_wp2_with (first | ((with_reducible refine az (f := 95) rfl ?_); refine aT (some 21) rfl rfl Try.func95 (by kernel_rfl) rfl #[.int .i64 a0, .int .i64 a1] rfl (by (try simp only [List.map_toArray, List.map_cons, List.map_nil]); first | done | rfl | (simp only [List.length_drop, List.length_take]; rfl)) ?_; (with_reducible refine (a_.calls a0 a1 t121 t122 true _ A3.out).mono ?_); rintro e w34 ⟨rfl, hb⟩; refine ⟨_, rfl, ?_⟩; have bu := aj.mk (aO (by repeat (first | (with_reducible first | exact HB.out | apply ak | apply ah | apply au) | exact HB.out)) hb); clear HB; have HB := bu; clear bu; (try clear hb); (try clear hb2); (try clear hk); (try clear hi)) | ((with_reducible refine az (f := 97) rfl ?_); refine aT (some 39) rfl rfl Try.func97 (by kernel_rfl) rfl #[.int .i64 t121] rfl (by (try simp only [List.map_toArray, List.map_cons, List.map_nil]); first | done | rfl | (simp only [List.length_drop, List.length_take]; rfl)) ?_; (with_reducible refine (aU.calls t121 t124 _ KP.out).mono ?_); rintro e w' ⟨rfl, ⟨nd, rfl⟩⟩; refine ⟨_, rfl, ?_⟩) | ((with_reducible refine az (f := 97) rfl ?_); refine aT (some 41) rfl rfl Try.func97 (by kernel_rfl) rfl #[.int .i64 t122] rfl (by (try simp only [List.map_toArray, List.map_cons, List.map_nil]); first | done | rfl | (simp only [List.length_drop, List.length_take]; rfl)) ?_; (with_reducible refine (aU.calls t122 t125 _ KO.out).mono ?_); rintro e w' ⟨rfl, ⟨nd, rfl⟩⟩; refine ⟨_, rfl, ?_⟩) | ((with_reducible refine az (f := 112) rfl ?_); refine aT (some 59) rfl rfl Try.func112 (by kernel_rfl) rfl #[.int .u64 (t124 / 1099511627776), .int .u64 (IntKind.u64.wrap (t124 * 16777216)), .int .u64 t125] rfl (by (try simp only [List.map_toArray, List.map_cons, List.map_nil]); first | done | rfl | (simp only [List.length_drop, List.length_take]; rfl)) ?_; (with_reducible refine (aI.calls k (t124 / 1099511627776) (IntKind.u64.wrap (t124 * 16777216)) t125 t128 t129 _ I5.out).mono ?_); rintro e w' ⟨rfl, ⟨nd, rfl⟩⟩; refine ⟨_, rfl, ?_⟩) | ((with_reducible refine az (f := 98) rfl ?_); refine aT (some 84) rfl rfl Try.func98 (by kernel_rfl) rfl #[.int .u64 0, .int .u64 t128, .bool ((decide (t121 < 0)) != (decide (t122 < 0)))] rfl (by (try simp only [List.map_toArray, List.map_cons, List.map_nil]); first | done | rfl | (simp only [List.length_drop, List.length_take]; rfl)) ?_; (with_reducible refine (aJ.calls 0 t128 ((decide (t121 < 0)) != (decide (t122 < 0))) t134 t135 _ A32.out).mono ?_); rintro e w35 ⟨rfl, hb⟩; refine ⟨_, rfl, ?_⟩; have bu := aj.mk (aO (by repeat (first | (with_reducible first | exact HB.out | apply ak | apply ah | apply au) | exact HB.out)) hb); clear HB; have HB := bu; clear bu; (try clear hb); (try clear hb2); (try clear hk); (try clear hi)))
             go_ret2
             exact ⟨by first | rfl | (simp [aN, aK] <;> rfl) | (simp [*, aN, aK] <;> rfl), by repeat (first | (with_reducible first | exact HB.out | apply ak | apply ah | apply au) | exact HB.out)⟩
           · replace VK := Bool.eq_false_iff.mpr VK
             subst VK
             have H1 : (some (t134, t135)) = some (r1, r2) := by rw [if_neg (show ¬ (false = true) by decide)] at H; exact H
             clear H
             have H := H1
             clear H1
             simp only [Option.some.injEq, Prod.mk.injEq] at H
             obtain ⟨rfl, rfl⟩ := H
             go_enter Try.func93, Try.ntmps93
             go_wp2_with (first | ((with_reducible refine az (f := 95) rfl ?_); refine aT (some 21) rfl rfl Try.func95 (by kernel_rfl) rfl #[.int .i64 a0, .int .i64 a1] rfl (by (try simp only [List.map_toArray, List.map_cons, List.map_nil]); first | done | rfl | (simp only [List.length_drop, List.length_take]; rfl)) ?_; (with_reducible refine (a_.calls a0 a1 t121 t122 false _ A3.out).mono ?_); rintro e w36 ⟨rfl, hb⟩; refine ⟨_, rfl, ?_⟩; have bu := aj.mk (aO (by repeat (first | (with_reducible first | exact HB.out | apply ak | apply ah | apply au) | exact HB.out)) hb); clear HB; have HB := bu; clear bu; (try clear hb); (try clear hb2); (try clear hk); (try clear hi)) | ((with_reducible refine az (f := 97) rfl ?_); refine aT (some 39) rfl rfl Try.func97 (by kernel_rfl) rfl #[.int .i64 t121] rfl (by (try simp only [List.map_toArray, List.map_cons, List.map_nil]); first | done | rfl | (simp only [List.length_drop, List.length_take]; rfl)) ?_; (with_reducible refine (aU.calls t121 t124 _ KP.out).mono ?_); rintro e w' ⟨rfl, ⟨nd, rfl⟩⟩; refine ⟨_, rfl, ?_⟩) | ((with_reducible refine az (f := 97) rfl ?_); refine aT (some 41) rfl rfl Try.func97 (by kernel_rfl) rfl #[.int .i64 t122] rfl (by (try simp only [List.map_toArray, List.map_cons, List.map_nil]); first | done | rfl | (simp only [List.length_drop, List.length_take]; rfl)) ?_; (with_reducible refine (aU.calls t122 t125 _ KO.out).mono ?_); rintro e w' ⟨rfl, ⟨nd, rfl⟩⟩; refine ⟨_, rfl, ?_⟩) | ((with_reducible refine az (f := 112) rfl ?_); refine aT (some 59) rfl rfl Try.func112 (by kernel_rfl) rfl #[.int .u64 (t124 / 1099511627776), .int .u64 (IntKind.u64.wrap (t124 * 16777216)), .int .u64 t125] rfl (by (try simp only [List.map_toArray, List.map_cons, List.map_nil]); first | done | rfl | (simp only [List.length_drop, List.length_take]; rfl)) ?_; (with_reducible refine (aI.calls k (t124 / 1099511627776) (IntKind.u64.wrap (t124 * 16777216)) t125 t128 t129 _ I5.out).mono ?_); rintro e w' ⟨rfl, ⟨nd, rfl⟩⟩; refine ⟨_, rfl, ?_⟩) | ((with_reducible refine az (f := 98) rfl ?_); refine aT (some 84) rfl rfl Try.func98 (by kernel_rfl) rfl #[.int .u64 0, .int .u64 t128, .bool ((decide (t121 < 0)) != (decide (t122 < 0)))] rfl (by (try simp only [List.map_toArray, List.map_cons, List.map_nil]); first | done | rfl | (simp only [List.length_drop, List.length_take]; rfl)) ?_; (with_reducible refine (aJ.calls 0 t128 ((decide (t121 < 0)) != (decide (t122 < 0))) t134 t135 _ A32.out).mono ?_); rintro e w37 ⟨rfl, hb⟩; refine ⟨_, rfl, ?_⟩; have bu := aj.mk (aO (by repeat (first | (with_reducible first | exact HB.out | apply ak | apply ah | apply au) | exact HB.out)) hb); clear HB; have HB := bu; clear bu; (try clear hb); (try clear hb2); (try clear hk); (try clear hi)))
             go_ret2
             exact ⟨by first | rfl | (simp [aN, aK] <;> rfl) | (simp [*, aN, aK] <;> rfl), by repeat (first | (with_reducible first | exact HB.out | apply ak | apply ah | apply au) | exact HB.out)⟩
       · rw [if_neg c24] at H
         have DT : (t129 == (IntKind.u64.wrap (t125 - t129))) = false := beq_eq_false_iff_ne.mpr c24
         have DR : (t129 != (IntKind.u64.wrap (t125 - t129))) = true := bne_iff_ne.mpr c24
         replace H := Option.bind_eq_some_iff.mp H
         obtain ⟨⟨t136, t137⟩, Ur, H⟩ := H
         replace H : (if t123 = true then (some (t136, true)) else (some (t136, t137))) = some (r1, r2) := H
         have A38 := aj.mk Ur
         clear Ur
         by_cases VJ : t123 = true
         · subst VJ
           rw [if_pos rfl] at H
           simp only [Option.some.injEq, Prod.mk.injEq] at H
           obtain ⟨rfl, rfl⟩ := H
           go_enter Try.func93, Try.ntmps93
           go_wp2_with (first | ((with_reducible refine az (f := 95) rfl ?_); refine aT (some 21) rfl rfl Try.func95 (by kernel_rfl) rfl #[.int .i64 a0, .int .i64 a1] rfl (by (try simp only [List.map_toArray, List.map_cons, List.map_nil]); first | done | rfl | (simp only [List.length_drop, List.length_take]; rfl)) ?_; (with_reducible refine (a_.calls a0 a1 t121 t122 true _ A3.out).mono ?_); rintro e w40 ⟨rfl, hb⟩; refine ⟨_, rfl, ?_⟩; have bu := aj.mk (aO (by repeat (first | (with_reducible first | exact HB.out | apply ak | apply ah | apply au) | exact HB.out)) hb); clear HB; have HB := bu; clear bu; (try clear hb); (try clear hb2); (try clear hk); (try clear hi)) | ((with_reducible refine az (f := 97) rfl ?_); refine aT (some 39) rfl rfl Try.func97 (by kernel_rfl) rfl #[.int .i64 t121] rfl (by (try simp only [List.map_toArray, List.map_cons, List.map_nil]); first | done | rfl | (simp only [List.length_drop, List.length_take]; rfl)) ?_; (with_reducible refine (aU.calls t121 t124 _ KP.out).mono ?_); rintro e w' ⟨rfl, ⟨nd, rfl⟩⟩; refine ⟨_, rfl, ?_⟩) | ((with_reducible refine az (f := 97) rfl ?_); refine aT (some 41) rfl rfl Try.func97 (by kernel_rfl) rfl #[.int .i64 t122] rfl (by (try simp only [List.map_toArray, List.map_cons, List.map_nil]); first | done | rfl | (simp only [List.length_drop, List.length_take]; rfl)) ?_; (with_reducible refine (aU.calls t122 t125 _ KO.out).mono ?_); rintro e w' ⟨rfl, ⟨nd, rfl⟩⟩; refine ⟨_, rfl, ?_⟩) | ((with_reducible refine az (f := 112) rfl ?_); refine aT (some 59) rfl rfl Try.func112 (by kernel_rfl) rfl #[.int .u64 (t124 / 1099511627776), .int .u64 (IntKind.u64.wrap (t124 * 16777216)), .int .u64 t125] rfl (by (try simp only [List.map_toArray, List.map_cons, List.map_nil]); first | done | rfl | (simp only [List.length_drop, List.length_take]; rfl)) ?_; (with_reducible refine (aI.calls k (t124 / 1099511627776) (IntKind.u64.wrap (t124 * 16777216)) t125 t128 t129 _ I5.out).mono ?_); rintro e w' ⟨rfl, ⟨nd, rfl⟩⟩; refine ⟨_, rfl, ?_⟩) | ((with_reducible refine az (f := 98) rfl ?_); refine aT (some 84) rfl rfl Try.func98 (by kernel_rfl) rfl #[.int .u64 0, .int .u64 t128, .bool ((decide (t121 < 0)) != (decide (t122 < 0)))] rfl (by (try simp only [List.map_toArray, List.map_cons, List.map_nil]); first | done | rfl | (simp only [List.length_drop, List.length_take]; rfl)) ?_; (with_reducible refine (aJ.calls 0 t128 ((decide (t121 < 0)) != (decide (t122 < 0))) t136 t137 _ A38.out).mono ?_); rintro e w41 ⟨rfl, hb⟩; refine ⟨_, rfl, ?_⟩; have bu := aj.mk (aO (by repeat (first | (with_reducible first | exact HB.out | apply ak | apply ah | apply au) | exact HB.out)) hb); clear HB; have HB := bu; clear bu; (try clear hb); (try clear hb2); (try clear hk); (try clear hi)))
           go_ret2
           exact ⟨by first | rfl | (simp [aN, aK] <;> rfl) | (simp [*, aN, aK] <;> rfl), by repeat (first | (with_reducible first | exact HB.out | apply ak | apply ah | apply au) | exact HB.out)⟩
         · replace VJ := Bool.eq_false_iff.mpr VJ
           subst VJ
           have H1 : (some (t136, t137)) = some (r1, r2) := by rw [if_neg (show ¬ (false = true) by decide)] at H; exact H
           clear H
           have H := H1
           clear H1
           simp only [Option.some.injEq, Prod.mk.injEq] at H
           obtain ⟨rfl, rfl⟩ := H
           go_enter Try.func93, Try.ntmps93
           go_wp2_with (first | ((with_reducible refine az (f := 95) rfl ?_); refine aT (some 21) rfl rfl Try.func95 (by kernel_rfl) rfl #[.int .i64 a0, .int .i64 a1] rfl (by (try simp only [List.map_toArray, List.map_cons, List.map_nil]); first | done | rfl | (simp only [List.length_drop, List.length_take]; rfl)) ?_; (with_reducible refine (a_.calls a0 a1 t121 t122 false _ A3.out).mono ?_); rintro e w42 ⟨rfl, hb⟩; refine ⟨_, rfl, ?_⟩; have bu := aj.mk (aO (by repeat (first | (with_reducible first | exact HB.out | apply ak | apply ah | apply au) | exact HB.out)) hb); clear HB; have HB := bu; clear bu; (try clear hb); (try clear hb2); (try clear hk); (try clear hi)) | ((with_reducible refine az (f := 97) rfl ?_); refine aT (some 39) rfl rfl Try.func97 (by kernel_rfl) rfl #[.int .i64 t121] rfl (by (try simp only [List.map_toArray, List.map_cons, List.map_nil]); first | done | rfl | (simp only [List.length_drop, List.length_take]; rfl)) ?_; (with_reducible refine (aU.calls t121 t124 _ KP.out).mono ?_); rintro e w' ⟨rfl, ⟨nd, rfl⟩⟩; refine ⟨_, rfl, ?_⟩) | ((with_reducible refine az (f := 97) rfl ?_); refine aT (some 41) rfl rfl Try.func97 (by kernel_rfl) rfl #[.int .i64 t122] rfl (by (try simp only [List.map_toArray, List.map_cons, List.map_nil]); first | done | rfl | (simp only [List.length_drop, List.length_take]; rfl)) ?_; (with_reducible refine (aU.calls t122 t125 _ KO.out).mono ?_); rintro e w' ⟨rfl, ⟨nd, rfl⟩⟩; refine ⟨_, rfl, ?_⟩) | ((with_reducible refine az (f := 112) rfl ?_); refine aT (some 59) rfl rfl Try.func112 (by kernel_rfl) rfl #[.int .u64 (t124 / 1099511627776), .int .u64 (IntKind.u64.wrap (t124 * 16777216)), .int .u64 t125] rfl (by (try simp only [List.map_toArray, List.map_cons, List.map_nil]); first | done | rfl | (simp only [List.length_drop, List.length_take]; rfl)) ?_; (with_reducible refine (aI.calls k (t124 / 1099511627776) (IntKind.u64.wrap (t124 * 16777216)) t125 t128 t129 _ I5.out).mono ?_); rintro e w' ⟨rfl, ⟨nd, rfl⟩⟩; refine ⟨_, rfl, ?_⟩) | ((with_reducible refine az (f := 98) rfl ?_); refine aT (some 84) rfl rfl Try.func98 (by kernel_rfl) rfl #[.int .u64 0, .int .u64 t128, .bool ((decide (t121 < 0)) != (decide (t122 < 0)))] rfl (by (try simp only [List.map_toArray, List.map_cons, List.map_nil]); first | done | rfl | (simp only [List.length_drop, List.length_take]; rfl)) ?_; (with_reducible refine (aJ.calls 0 t128 ((decide (t121 < 0)) != (decide (t122 < 0))) t136 t137 _ A38.out).mono ?_); rintro e w43 ⟨rfl, hb⟩; refine ⟨_, rfl, ?_⟩; have bu := aj.mk (aO (by repeat (first | (with_reducible first | exact HB.out | apply ak | apply ah | apply au) | exact HB.out)) hb); clear HB; have HB := bu; clear bu; (try clear hb); (try clear hb2); (try clear hk); (try clear hi)))
           go_ret2
           exact ⟨by first | rfl | (simp [aN, aK] <;> rfl) | (simp [*, aN, aK] <;> rfl), by repeat (first | (with_reducible first | exact HB.out | apply ak | apply ah | apply au) | exact HB.out)⟩
def oG.f (a0 : Int) (a1 : Int) : Option (Int × Bool) := (a_.f a0 a1).bind fun wC => ((bQ.f (wrap64 (wC.1 - wC.2.1))).bind fun oU => (if wC.2.2 = true then (some (oU.1, true)) else (some (oU.1, oU.2))))
theorem oG.calls (a0 : Int) (a1 : Int) (r1 : Int) (r2 : Bool) (w : World) (h : oG.f a0 a1 = some (r1, r2)) :
 Calls Try.prog 66 #[.int .i64 a0, .int .i64 a1] w fun e w' => e = .returned (.tuple #[.int .i64 r1, .bool r2]) ∧ Below w.heap.size w w' := by
 have HB := aj.mk (Below.refl w.heap.size w)
 have H : ((a_.f a0 a1).bind fun wC => ((bQ.f (wrap64 (wC.1 - wC.2.1))).bind fun oU => (if wC.2.2 = true then (some (oU.1, true)) else (some (oU.1, oU.2))))) = some (r1, r2) := h
 clear h
 replace H := Option.bind_eq_some_iff.mp H
 obtain ⟨⟨t138, t139, t140⟩, xU, H⟩ := H
 replace H : ((bQ.f (wrap64 (t138 - t139))).bind fun oU => (if t140 = true then (some (oU.1, true)) else (some (oU.1, oU.2)))) = some (r1, r2) := H
 have A3 := aj.mk xU
 clear xU
 replace H := Option.bind_eq_some_iff.mp H
 obtain ⟨⟨t141, t142⟩, Ba, H⟩ := H
 replace H : (if t140 = true then (some (t141, true)) else (some (t141, t142))) = some (r1, r2) := H
 have A4 := aj.mk Ba
 clear Ba
 by_cases c5 : t140 = true
 · subst c5
   rw [if_pos rfl] at H
   simp only [Option.some.injEq, Prod.mk.injEq] at H
   obtain ⟨rfl, rfl⟩ := H
   go_enter Try.func66, Try.ntmps66
   go_wp2_with (first | ((with_reducible refine az (f := 95) rfl ?_); refine aT (some 12) rfl rfl Try.func95 (by kernel_rfl) rfl #[.int .i64 a0, .int .i64 a1] rfl (by (try simp only [List.map_toArray, List.map_cons, List.map_nil]); first | done | rfl | (simp only [List.length_drop, List.length_take]; rfl)) ?_; (with_reducible refine (a_.calls a0 a1 t138 t139 true _ A3.out).mono ?_); rintro e w6 ⟨rfl, hb⟩; refine ⟨_, rfl, ?_⟩; have bu := aj.mk (aO (by repeat (first | (with_reducible first | exact HB.out | apply ak | apply ah | apply au) | exact HB.out)) hb); clear HB; have HB := bu; clear bu; (try clear hb); (try clear hb2); (try clear hk); (try clear hi)) | ((with_reducible refine az (f := 86) rfl ?_); refine aT (some 20) rfl rfl Try.func86 (by kernel_rfl) rfl #[.int .i64 (wrap64 (t138 - t139))] rfl (by (try simp only [List.map_toArray, List.map_cons, List.map_nil]); first | done | rfl | (simp only [List.length_drop, List.length_take]; rfl)) ?_; (with_reducible refine (bQ.calls (wrap64 (t138 - t139)) t141 t142 _ A4.out).mono ?_); rintro e w7 ⟨rfl, hb⟩; refine ⟨_, rfl, ?_⟩; have bu := aj.mk (aO (by repeat (first | (with_reducible first | exact HB.out | apply ak | apply ah | apply au) | exact HB.out)) hb); clear HB; have HB := bu; clear bu; (try clear hb); (try clear hb2); (try clear hk); (try clear hi)))
   go_ret2
   exact ⟨by first | rfl | (simp [aN, aK] <;> rfl) | (simp [*, aN, aK] <;> rfl), by repeat (first | (with_reducible first | exact HB.out | apply ak | apply ah | apply au) | exact HB.out)⟩
 · replace c5 := Bool.eq_false_iff.mpr c5
   subst c5
   have H1 : (some (t141, t142)) = some (r1, r2) := by rw [if_neg (show ¬ (false = true) by decide)] at H; exact H
   clear H
   have H := H1
   clear H1
   simp only [Option.some.injEq, Prod.mk.injEq] at H
   obtain ⟨rfl, rfl⟩ := H
   go_enter Try.func66, Try.ntmps66
   go_wp2_with (first | ((with_reducible refine az (f := 95) rfl ?_); refine aT (some 12) rfl rfl Try.func95 (by kernel_rfl) rfl #[.int .i64 a0, .int .i64 a1] rfl (by (try simp only [List.map_toArray, List.map_cons, List.map_nil]); first | done | rfl | (simp only [List.length_drop, List.length_take]; rfl)) ?_; (with_reducible refine (a_.calls a0 a1 t138 t139 false _ A3.out).mono ?_); rintro e w8 ⟨rfl, hb⟩; refine ⟨_, rfl, ?_⟩; have bu := aj.mk (aO (by repeat (first | (with_reducible first | exact HB.out | apply ak | apply ah | apply au) | exact HB.out)) hb); clear HB; have HB := bu; clear bu; (try clear hb); (try clear hb2); (try clear hk); (try clear hi)) | ((with_reducible refine az (f := 86) rfl ?_); refine aT (some 20) rfl rfl Try.func86 (by kernel_rfl) rfl #[.int .i64 (wrap64 (t138 - t139))] rfl (by (try simp only [List.map_toArray, List.map_cons, List.map_nil]); first | done | rfl | (simp only [List.length_drop, List.length_take]; rfl)) ?_; (with_reducible refine (bQ.calls (wrap64 (t138 - t139)) t141 t142 _ A4.out).mono ?_); rintro e w9 ⟨rfl, hb⟩; refine ⟨_, rfl, ?_⟩; have bu := aj.mk (aO (by repeat (first | (with_reducible first | exact HB.out | apply ak | apply ah | apply au) | exact HB.out)) hb); clear HB; have HB := bu; clear bu; (try clear hb); (try clear hb2); (try clear hk); (try clear hi)))
   go_ret2
   exact ⟨by first | rfl | (simp [aN, aK] <;> rfl) | (simp [*, aN, aK] <;> rfl), by repeat (first | (with_reducible first | exact HB.out | apply ak | apply ah | apply au) | exact HB.out)⟩
end Go.Proofs.Ytnijhjbcjeohhaa.PQ

namespace Go.Proofs.Ytnijhjbcjeohhaa.PQ
open Go.RowKit Go.Proofs.af.aF Go.Proofs.af.aP Go.Proofs.af.aQ
attribute [local go_sem] fU fP iJ iI eG eF fQ fO
set_option linter.unusedVariables false
set_option linter.unusedSimpArgs false
def oI.f (a0 : Int) (a1 : Int) : Option (Int × Bool) := (a_.f a0 a1).bind fun wB => ((bQ.f (wrap64 (wB.1 + wB.2.1))).bind fun oQ => (if wB.2.2 = true then (some (oQ.1, true)) else (some (oQ.1, oQ.2))))
theorem oI.calls (a0 : Int) (a1 : Int) (r1 : Int) (r2 : Bool) (w : World) (h : oI.f a0 a1 = some (r1, r2)) :
 Calls Try.prog 69 #[.int .i64 a0, .int .i64 a1] w fun e w' => e = .returned (.tuple #[.int .i64 r1, .bool r2]) ∧ Below w.heap.size w w' := by
 have HB := aj.mk (Below.refl w.heap.size w)
 have H : ((a_.f a0 a1).bind fun wB => ((bQ.f (wrap64 (wB.1 + wB.2.1))).bind fun oQ => (if wB.2.2 = true then (some (oQ.1, true)) else (some (oQ.1, oQ.2))))) = some (r1, r2) := h
 clear h
 replace H := Option.bind_eq_some_iff.mp H
 obtain ⟨⟨t143, t144, t145⟩, xU, H⟩ := H
 replace H : ((bQ.f (wrap64 (t143 + t144))).bind fun oQ => (if t145 = true then (some (oQ.1, true)) else (some (oQ.1, oQ.2)))) = some (r1, r2) := H
 have A3 := aj.mk xU
 clear xU
 replace H := Option.bind_eq_some_iff.mp H
 obtain ⟨⟨t146, t147⟩, Ba, H⟩ := H
 replace H : (if t145 = true then (some (t146, true)) else (some (t146, t147))) = some (r1, r2) := H
 have A4 := aj.mk Ba
 clear Ba
 by_cases c5 : t145 = true
 · subst c5
   rw [if_pos rfl] at H
   simp only [Option.some.injEq, Prod.mk.injEq] at H
   obtain ⟨rfl, rfl⟩ := H
   go_enter Try.func69, Try.ntmps69
   go_wp2_with (first | ((with_reducible refine az (f := 95) rfl ?_); refine aT (some 12) rfl rfl Try.func95 (by kernel_rfl) rfl #[.int .i64 a0, .int .i64 a1] rfl (by (try simp only [List.map_toArray, List.map_cons, List.map_nil]); first | done | rfl | (simp only [List.length_drop, List.length_take]; rfl)) ?_; (with_reducible refine (a_.calls a0 a1 t143 t144 true _ A3.out).mono ?_); rintro e w6 ⟨rfl, hb⟩; refine ⟨_, rfl, ?_⟩; have bu := aj.mk (aO (by repeat (first | (with_reducible first | exact HB.out | apply ak | apply ah | apply au) | exact HB.out)) hb); clear HB; have HB := bu; clear bu; (try clear hb); (try clear hb2); (try clear hk); (try clear hi)) | ((with_reducible refine az (f := 86) rfl ?_); refine aT (some 20) rfl rfl Try.func86 (by kernel_rfl) rfl #[.int .i64 (wrap64 (t143 + t144))] rfl (by (try simp only [List.map_toArray, List.map_cons, List.map_nil]); first | done | rfl | (simp only [List.length_drop, List.length_take]; rfl)) ?_; (with_reducible refine (bQ.calls (wrap64 (t143 + t144)) t146 t147 _ A4.out).mono ?_); rintro e w7 ⟨rfl, hb⟩; refine ⟨_, rfl, ?_⟩; have bu := aj.mk (aO (by repeat (first | (with_reducible first | exact HB.out | apply ak | apply ah | apply au) | exact HB.out)) hb); clear HB; have HB := bu; clear bu; (try clear hb); (try clear hb2); (try clear hk); (try clear hi)))
   go_ret2
   exact ⟨by first | rfl | (simp [aN, aK] <;> rfl) | (simp [*, aN, aK] <;> rfl), by repeat (first | (with_reducible first | exact HB.out | apply ak | apply ah | apply au) | exact HB.out)⟩
 · replace c5 := Bool.eq_false_iff.mpr c5
   subst c5
   have H1 : (some (t146, t147)) = some (r1, r2) := by rw [if_neg (show ¬ (false = true) by decide)] at H; exact H
   clear H
   have H := H1
   clear H1
   simp only [Option.some.injEq, Prod.mk.injEq] at H
   obtain ⟨rfl, rfl⟩ := H
   go_enter Try.func69, Try.ntmps69
   go_wp2_with (first | ((with_reducible refine az (f := 95) rfl ?_); refine aT (some 12) rfl rfl Try.func95 (by kernel_rfl) rfl #[.int .i64 a0, .int .i64 a1] rfl (by (try simp only [List.map_toArray, List.map_cons, List.map_nil]); first | done | rfl | (simp only [List.length_drop, List.length_take]; rfl)) ?_; (with_reducible refine (a_.calls a0 a1 t143 t144 false _ A3.out).mono ?_); rintro e w8 ⟨rfl, hb⟩; refine ⟨_, rfl, ?_⟩; have bu := aj.mk (aO (by repeat (first | (with_reducible first | exact HB.out | apply ak | apply ah | apply au) | exact HB.out)) hb); clear HB; have HB := bu; clear bu; (try clear hb); (try clear hb2); (try clear hk); (try clear hi)) | ((with_reducible refine az (f := 86) rfl ?_); refine aT (some 20) rfl rfl Try.func86 (by kernel_rfl) rfl #[.int .i64 (wrap64 (t143 + t144))] rfl (by (try simp only [List.map_toArray, List.map_cons, List.map_nil]); first | done | rfl | (simp only [List.length_drop, List.length_take]; rfl)) ?_; (with_reducible refine (bQ.calls (wrap64 (t143 + t144)) t146 t147 _ A4.out).mono ?_); rintro e w9 ⟨rfl, hb⟩; refine ⟨_, rfl, ?_⟩; have bu := aj.mk (aO (by repeat (first | (with_reducible first | exact HB.out | apply ak | apply ah | apply au) | exact HB.out)) hb); clear HB; have HB := bu; clear bu; (try clear hb); (try clear hb2); (try clear hk); (try clear hi)))
   go_ret2
   exact ⟨by first | rfl | (simp [aN, aK] <;> rfl) | (simp [*, aN, aK] <;> rfl), by repeat (first | (with_reducible first | exact HB.out | apply ak | apply ah | apply au) | exact HB.out)⟩
def lI.f (a0 : Int) (a1 : Int) : Option (Int) := if (mn (mx a1 0) 62) > 0 then (if 0 ≤ ((mn (mx a1 0) 62) - 1) then (if (Go.bits .and .u64 (IntKind.u64.wrap (a0)) (IntKind.u64.wrap ((IntKind.u64.wrap (2 ^ (mn (mx a1 0) 62).toNat)) - 1))) > (IntKind.u64.wrap (2 ^ ((mn (mx a1 0) 62) - 1).toNat)) then (some (wrap64 ((a0 / 2 ^ (mn (mx a1 0) 62).toNat) + 1))) else (if (Go.bits .and .u64 (IntKind.u64.wrap (a0)) (IntKind.u64.wrap ((IntKind.u64.wrap (2 ^ (mn (mx a1 0) 62).toNat)) - 1))) = (IntKind.u64.wrap (2 ^ ((mn (mx a1 0) 62) - 1).toNat)) then (if (Go.bits .and .i64 (a0 / 2 ^ (mn (mx a1 0) 62).toNat) 1) = 1 then (some (wrap64 ((a0 / 2 ^ (mn (mx a1 0) 62).toNat) + 1))) else (some (a0 / 2 ^ (mn (mx a1 0) 62).toNat))) else (some (a0 / 2 ^ (mn (mx a1 0) 62).toNat)))) else (none)) else (some (a0 / 2 ^ (mn (mx a1 0) 62).toNat))
theorem lI.calls (a0 : Int) (a1 : Int) (r : Int) (w : World) (h : lI.f a0 a1 = some r) :
 Calls Try.prog 84 #[.int .i64 a0, .int .i64 a1] w fun e w' => e = .returned (.int .i64 r) ∧ Below w.heap.size w w' := by
 have HB := aj.mk (Below.refl w.heap.size w)
 have H : (if (mn (mx a1 0) 62) > 0 then (if 0 ≤ ((mn (mx a1 0) 62) - 1) then (if (Go.bits .and .u64 (IntKind.u64.wrap (a0)) (IntKind.u64.wrap ((IntKind.u64.wrap (2 ^ (mn (mx a1 0) 62).toNat)) - 1))) > (IntKind.u64.wrap (2 ^ ((mn (mx a1 0) 62) - 1).toNat)) then (some (wrap64 ((a0 / 2 ^ (mn (mx a1 0) 62).toNat) + 1))) else (if (Go.bits .and .u64 (IntKind.u64.wrap (a0)) (IntKind.u64.wrap ((IntKind.u64.wrap (2 ^ (mn (mx a1 0) 62).toNat)) - 1))) = (IntKind.u64.wrap (2 ^ ((mn (mx a1 0) 62) - 1).toNat)) then (if (Go.bits .and .i64 (a0 / 2 ^ (mn (mx a1 0) 62).toNat) 1) = 1 then (some (wrap64 ((a0 / 2 ^ (mn (mx a1 0) 62).toNat) + 1))) else (some (a0 / 2 ^ (mn (mx a1 0) 62).toNat))) else (some (a0 / 2 ^ (mn (mx a1 0) 62).toNat)))) else (none)) else (some (a0 / 2 ^ (mn (mx a1 0) 62).toNat))) = some r := h
 clear h
 obtain ⟨wS, qW⟩ : ∃ j_ : Int, (mx a1 0) = j_ := ⟨_, rfl⟩
 replace H : (if (mn (wS) 62) > 0 then (if 0 ≤ ((mn (wS) 62) - 1) then (if (Go.bits .and .u64 (IntKind.u64.wrap (a0)) (IntKind.u64.wrap ((IntKind.u64.wrap (2 ^ (mn (wS) 62).toNat)) - 1))) > (IntKind.u64.wrap (2 ^ ((mn (wS) 62) - 1).toNat)) then (some (wrap64 ((a0 / 2 ^ (mn (wS) 62).toNat) + 1))) else (if (Go.bits .and .u64 (IntKind.u64.wrap (a0)) (IntKind.u64.wrap ((IntKind.u64.wrap (2 ^ (mn (wS) 62).toNat)) - 1))) = (IntKind.u64.wrap (2 ^ ((mn (wS) 62) - 1).toNat)) then (if (Go.bits .and .i64 (a0 / 2 ^ (mn (wS) 62).toNat) 1) = 1 then (some (wrap64 ((a0 / 2 ^ (mn (wS) 62).toNat) + 1))) else (some (a0 / 2 ^ (mn (wS) 62).toNat))) else (some (a0 / 2 ^ (mn (wS) 62).toNat)))) else (none)) else (some (a0 / 2 ^ (mn (wS) 62).toNat))) = some r := by first | (rw [qW] at H; exact H) | (simp only [qW] at H ⊢; exact H)
 (try (have ZU : 0 ≤ wS := by (rw [← qW]; unfold mx; (repeat' split) <;> omega)))
 (try (have ZT : 0 ≤ wS := by omega))
 have Qw : (if a1 < 0 then 0 else a1) = wS := qW
 obtain ⟨oh, zH⟩ : ∃ j_ : Int, (mn (wS) 62) = j_ := ⟨_, rfl⟩
 replace H : (if (oh) > 0 then (if 0 ≤ ((oh) - 1) then (if (Go.bits .and .u64 (IntKind.u64.wrap (a0)) (IntKind.u64.wrap ((IntKind.u64.wrap (2 ^ (oh).toNat)) - 1))) > (IntKind.u64.wrap (2 ^ ((oh) - 1).toNat)) then (some (wrap64 ((a0 / 2 ^ (oh).toNat) + 1))) else (if (Go.bits .and .u64 (IntKind.u64.wrap (a0)) (IntKind.u64.wrap ((IntKind.u64.wrap (2 ^ (oh).toNat)) - 1))) = (IntKind.u64.wrap (2 ^ ((oh) - 1).toNat)) then (if (Go.bits .and .i64 (a0 / 2 ^ (oh).toNat) 1) = 1 then (some (wrap64 ((a0 / 2 ^ (oh).toNat) + 1))) else (some (a0 / 2 ^ (oh).toNat))) else (some (a0 / 2 ^ (oh).toNat)))) else (none)) else (some (a0 / 2 ^ (oh).toNat))) = some r := by first | (rw [zH] at H; exact H) | (simp only [zH] at H ⊢; exact H)
 have Qv : (if 62 < (wS) then 62 else (wS)) = oh := zH
 by_cases c5 : (oh) > 0
 · rw [if_pos c5] at H
   have uF : decide (0 < (oh)) = true := decide_eq_true c5
   clear c5
   obtain ⟨sH, E_⟩ : ∃ j_ : Int, ((oh) - 1) = j_ := ⟨_, rfl⟩
   have ZR : sH ≤ 61 := by
    have h := Qv
    split at h <;> omega
   replace H : (if 0 ≤ (sH) then (if (Go.bits .and .u64 (IntKind.u64.wrap (a0)) (IntKind.u64.wrap ((IntKind.u64.wrap (2 ^ (oh).toNat)) - 1))) > (IntKind.u64.wrap (2 ^ (sH).toNat)) then (some (wrap64 ((a0 / 2 ^ (oh).toNat) + 1))) else (if (Go.bits .and .u64 (IntKind.u64.wrap (a0)) (IntKind.u64.wrap ((IntKind.u64.wrap (2 ^ (oh).toNat)) - 1))) = (IntKind.u64.wrap (2 ^ (sH).toNat)) then (if (Go.bits .and .i64 (a0 / 2 ^ (oh).toNat) 1) = 1 then (some (wrap64 ((a0 / 2 ^ (oh).toNat) + 1))) else (some (a0 / 2 ^ (oh).toNat))) else (some (a0 / 2 ^ (oh).toNat)))) else (none)) = some r := by first | (rw [E_] at H; exact H) | (simp only [E_] at H ⊢; exact H)
   by_cases c7 : 0 ≤ (sH)
   · rw [if_pos c7] at H
     have uD := eq_true c7
     have NY : decide (0 ≤ (sH)) = true := decide_eq_true c7
     clear c7
     by_cases c8 : (Go.bits .and .u64 (IntKind.u64.wrap (a0)) (IntKind.u64.wrap ((IntKind.u64.wrap (2 ^ (oh).toNat)) - 1))) > (IntKind.u64.wrap (2 ^ (sH).toNat))
     · rw [if_pos c8] at H
       have Ir : decide ((IntKind.u64.wrap (2 ^ (sH).toNat)) < (Go.bits .and .u64 (IntKind.u64.wrap (a0)) (IntKind.u64.wrap ((IntKind.u64.wrap (2 ^ (oh).toNat)) - 1)))) = true := decide_eq_true c8
       rw [show sH.toNat = min sH.toNat 64 by omega] at Ir
       clear c8
       obtain rfl := Option.some.inj H
       go_enter Try.func84, Try.ntmps84
       go_wp2
       go_ret
       exact ⟨by first | rfl | (simp [aN, aK] <;> rfl) | (simp only [← qW, ← zH, ← E_]; first | rfl | (simp [aN, aK] <;> rfl)) | (simp [*, aN, aK] <;> rfl), by repeat (first | (with_reducible first | exact HB.out | apply ak | apply ah | apply au) | exact HB.out)⟩
     · rw [if_neg c8] at H
       have Ir : decide ((IntKind.u64.wrap (2 ^ (sH).toNat)) < (Go.bits .and .u64 (IntKind.u64.wrap (a0)) (IntKind.u64.wrap ((IntKind.u64.wrap (2 ^ (oh).toNat)) - 1)))) = false := decide_eq_false c8
       rw [show sH.toNat = min sH.toNat 64 by omega] at Ir
       clear c8
       have FN := eq_true (of_decide_eq_true (by first | (with_reducible assumption) | assumption) : 0 ≤ (sH))
       by_cases c10 : (Go.bits .and .u64 (IntKind.u64.wrap (a0)) (IntKind.u64.wrap ((IntKind.u64.wrap (2 ^ (oh).toNat)) - 1))) = (IntKind.u64.wrap (2 ^ (sH).toNat))
       · rw [if_pos c10] at H
         have Iw : ((Go.bits .and .u64 (IntKind.u64.wrap (a0)) (IntKind.u64.wrap ((IntKind.u64.wrap (2 ^ (oh).toNat)) - 1))) == (IntKind.u64.wrap (2 ^ (sH).toNat))) = true := beq_iff_eq.mpr c10
         rw [show sH.toNat = min sH.toNat 64 by omega] at Iw
         have Iu : ((Go.bits .and .u64 (IntKind.u64.wrap (a0)) (IntKind.u64.wrap ((IntKind.u64.wrap (2 ^ (oh).toNat)) - 1))) != (IntKind.u64.wrap (2 ^ (sH).toNat))) = false := bne_eq_false_iff_eq.mpr c10
         rw [show sH.toNat = min sH.toNat 64 by omega] at Iu
         clear c10
         by_cases c11 : (Go.bits .and .i64 (a0 / 2 ^ (oh).toNat) 1) = 1
         · rw [if_pos c11] at H
           have wz : ((Go.bits .and .i64 (a0 / 2 ^ (oh).toNat) 1) == 1) = true := beq_iff_eq.mpr c11
           have QZ : ((Go.bits .and .i64 (a0 / 2 ^ (oh).toNat) 1) != 1) = false := bne_eq_false_iff_eq.mpr c11
           clear c11
           obtain rfl := Option.some.inj H
           go_enter Try.func84, Try.ntmps84
           go_wp2
           go_ret
           exact ⟨by first | rfl | (simp [aN, aK] <;> rfl) | (simp only [← qW, ← zH, ← E_]; first | rfl | (simp [aN, aK] <;> rfl)) | (simp [*, aN, aK] <;> rfl), by repeat (first | (with_reducible first | exact HB.out | apply ak | apply ah | apply au) | exact HB.out)⟩
         · rw [if_neg c11] at H
           have wz : ((Go.bits .and .i64 (a0 / 2 ^ (oh).toNat) 1) == 1) = false := beq_eq_false_iff_ne.mpr c11
           have QZ : ((Go.bits .and .i64 (a0 / 2 ^ (oh).toNat) 1) != 1) = true := bne_iff_ne.mpr c11
           obtain rfl := Option.some.inj H
           go_enter Try.func84, Try.ntmps84
           go_wp2
           go_ret
           exact ⟨by first | rfl | (simp [aN, aK] <;> rfl) | (simp only [← qW, ← zH, ← E_]; first | rfl | (simp [aN, aK] <;> rfl)) | (simp [*, aN, aK] <;> rfl), by repeat (first | (with_reducible first | exact HB.out | apply ak | apply ah | apply au) | exact HB.out)⟩
       · rw [if_neg c10] at H
         have Iw : ((Go.bits .and .u64 (IntKind.u64.wrap (a0)) (IntKind.u64.wrap ((IntKind.u64.wrap (2 ^ (oh).toNat)) - 1))) == (IntKind.u64.wrap (2 ^ (sH).toNat))) = false := beq_eq_false_iff_ne.mpr c10
         rw [show sH.toNat = min sH.toNat 64 by omega] at Iw
         have Iu : ((Go.bits .and .u64 (IntKind.u64.wrap (a0)) (IntKind.u64.wrap ((IntKind.u64.wrap (2 ^ (oh).toNat)) - 1))) != (IntKind.u64.wrap (2 ^ (sH).toNat))) = true := bne_iff_ne.mpr c10
         rw [show sH.toNat = min sH.toNat 64 by omega] at Iu
         obtain rfl := Option.some.inj H
         go_enter Try.func84, Try.ntmps84
         go_wp2
         go_ret
         exact ⟨by first | rfl | (simp [aN, aK] <;> rfl) | (simp only [← qW, ← zH, ← E_]; first | rfl | (simp [aN, aK] <;> rfl)) | (simp [*, aN, aK] <;> rfl), by repeat (first | (with_reducible first | exact HB.out | apply ak | apply ah | apply au) | exact HB.out)⟩
   · rw [if_neg c7] at H
     exact absurd H (by simp)
 · rw [if_neg c5] at H
   have uF : decide (0 < (oh)) = false := decide_eq_false c5
   clear c5
   obtain rfl := Option.some.inj H
   go_enter Try.func84, Try.ntmps84
   go_wp2
   go_ret
   exact ⟨by first | rfl | (simp [aN, aK] <;> rfl) | (simp only [← qW, ← zH]; first | rfl | (simp [aN, aK] <;> rfl)) | (simp [*, aN, aK] <;> rfl), by repeat (first | (with_reducible first | exact HB.out | apply ak | apply ah | apply au) | exact HB.out)⟩
def dw.j0 : Nat → Int → Bool → Option (Int)
 | 0, _, _ => none
 | k + 1, x2, x7 => if x7 = true then (some 9) else (if x2 ≤ 0 then (some 1) else (some 0))
def dw.f (k : Nat) (bP : Int) (bZ : Int) (bF : List Int) (yL : Int) (yK : Int) (uC : List Int) (bJ : Int) (bM : Int) (bD : List Int) (a2 : Int) : Option (Int) := if bJ = 1 then (dw.j0 k a2 (bM != bP)) else (dw.j0 k a2 true)
theorem dw.calls (k : Nat) (bP : Int) (bZ : Int) (dN : Option Addr) (dM : Nat) (bF : List Int) (yL : Int) (yK : Int) (Bc : Option Addr) (Aj : Nat) (uC : List Int) (bJ : Int) (bM : Int) (fA : Option Addr) (fF : Nat) (bD : List Int) (a2 : Int) (r : Int) (w : World) (kN : Kd.C (Kd.int .i64) w dN bF.length bF) (lZ : bF.length ≤ dM) (Lh : Kd.C (Kd.int .i64) w Bc uC.length uC) (Ll : uC.length ≤ Aj) (nC : Kd.C (Kd.int .i64) w fA bD.length bD) (n_ : bD.length ≤ fF) (h : dw.f k bP bZ bF yL yK uC bJ bM bD a2 = some r) :
 Calls Try.prog 117 #[.agg #[.int .i64 bP, .int .i64 bZ, .slice dN bF.length dM, .int .i64 yL, .int .i64 yK, .slice Bc uC.length Aj], .agg #[.int .i64 bJ, .int .i64 bM, .slice fA bD.length fF], .int .i64 a2] w fun e w' => e = .returned (.int .i64 r) ∧ Below w.heap.size w w' := by
 have abU := Try.underlying33
 have G_ := Try.underlying31
 have wK := aj.mk kN
 have wM := aj.mk lZ
 clear kN lZ
 have aa4 := aj.mk Lh
 have aa9 := aj.mk Ll
 clear Lh Ll
 have wJ := aj.mk nC
 have wL := aj.mk n_
 clear nC n_
 have HB := aj.mk (Below.refl w.heap.size w)
 have H : (if bJ = 1 then (dw.j0 k a2 (bM != bP)) else (dw.j0 k a2 true)) = some r := h
 clear h
 have Za := aj.mk H
 clear H
 go_enter Try.func117, Try.ntmps117
 go_upto_region 1 with (first | ((with_reducible refine dQ (N := 3) rfl ?_); refine dJ ?hg (N := 3) ?hd (cs := #[.int .i64 bP, .int .i64 bZ, .slice dN bF.length dM, .int .i64 yL, .int .i64 yK, .slice Bc uC.length Aj]) (t := 33) ?hr ?_; (case hd => rfl); (case hg => rfl); (case hr => first | (go_simp; done) | (go_simp; rfl)); intro mQ hg w5 hbox hb; have bu := aj.mk (aO (by repeat (first | (with_reducible first | exact HB.out | apply ak | apply ah | apply au) | exact HB.out)) hb); have fE := aj.mk (hbox); have fD := aj.mk ((by rw [hg]; exact (bC (by repeat (first | (with_reducible first | exact HB.out | apply ak | apply ah | apply au) | exact HB.out))) : w.heap.size ≤ mQ)); have iq := aj.mk ((by rw [hg]; exact (bC (by repeat (first | (with_reducible first | exact HB.out | apply ak | apply ah | apply au) | exact HB.out))) : w.heap.size ≤ mQ)); clear HB; have HB := bu; have jI := fE; have abf := fD; have uu := iq; clear bu fE fD iq; clear hb hbox hg) | ((with_reducible refine dQ (N := 4) rfl ?_); refine dJ ?hg (N := 4) ?hd (cs := #[.int .i64 bJ, .int .i64 bM, .slice fA bD.length fF]) (t := 31) ?hr ?_; (case hd => rfl); (case hg => rfl); (case hr => first | (go_simp; done) | (go_simp; rfl)); intro oN hg w6 hbox hb; have bu := aj.mk (bG (g := mQ) (o := .cells #[.int .i64 bP, .int .i64 bZ, .slice dN bF.length dM, .int .i64 yL, .int .i64 yK, .slice Bc uC.length Aj] 33 (0, 0)) (by (with_reducible repeat (first | refine aB ?_ _ | refine aH ?_ | refine aC ?_ _)); exact jI.out) hb); have fE := aj.mk (aO (by repeat (first | (with_reducible first | exact HB.out | apply ak | apply ah | apply au | refine aG ?_ uu.out) | exact HB.out)) hb); have fD := aj.mk (hbox); have iq := aj.mk ((by rw [hg]; exact (bC (by repeat (first | (with_reducible first | exact HB.out | apply ak | apply ah | apply au | refine aG ?_ uu.out) | exact HB.out))) : w.heap.size ≤ oN)); have jP := aj.mk ((by rw [hg]; exact (bC (by repeat (first | (with_reducible first | exact HB.out | apply ak | apply ah | apply au | refine aG ?_ uu.out) | exact HB.out))) : w.heap.size ≤ oN)); have ku := aj.mk ((by rw [hg]; exact Nat.ne_of_lt (dU (g := mQ) (o := .cells #[.int .i64 bP, .int .i64 bZ, .slice dN bF.length dM, .int .i64 yL, .int .i64 yK, .slice Bc uC.length Aj] 33 (0, 0)) (by (with_reducible repeat (first | refine aB ?_ _ | refine aH ?_ | refine aC ?_ _)); exact jI.out)) : mQ ≠ oN)); have kM := aj.mk ((by rw [hg]; exact Nat.ne_of_gt (dU (g := mQ) (o := .cells #[.int .i64 bP, .int .i64 bZ, .slice dN bF.length dM, .int .i64 yL, .int .i64 yK, .slice Bc uC.length Aj] 33 (0, 0)) (by (with_reducible repeat (first | refine aB ?_ _ | refine aH ?_ | refine aC ?_ _)); exact jI.out)) : oN ≠ mQ)); clear jI; clear HB; have jI := bu; have HB := fE; have mD := fD; have abe := iq; have AZ := jP; have xM := ku; have xK := kM; clear bu fE fD iq jP ku kM; clear hb hbox hg))
 (try simp only [Act.put, List.setIfInBounds_toArray, List.set_cons_zero, List.set_cons_succ])
 go_cut [7] (fun v7 wc => ∃ (kq : Nat) (Ja : Bool), v7 = .bool Ja ∧ aj (dw.j0 kq a2 Ja = some r) ∧ aj (kq ≤ k) ∧ aj (wc.heap[mQ]? = some (.cells #[.int .i64 bP, .int .i64 bZ, (.slice dN bF.length dM), .int .i64 yL, .int .i64 yK, (.slice Bc uC.length Aj)] 33 (0, 0))) ∧ aj (wc.heap[oN]? = some (.cells #[.int .i64 bJ, .int .i64 bM, (.slice fA bD.length fF)] 31 (0, 0))) ∧ aj (Below w.heap.size w wc))
 case first =>
  have H := Za.out
  clear Za
  by_cases c7 : bJ = 1
  · rw [if_pos c7] at H
    have uD : (bJ == 1) = true := beq_iff_eq.mpr c7
    have NY : (bJ != 1) = false := bne_eq_false_iff_eq.mpr c7
    clear c7
    (first | rw [uD] | (simp only [bK, bU]; rw [uD]) | skip)
    have H' := aj.mk H
    clear H
    have ab6 := xK.out
    have ab2 := xM.out
    have Ht : w6.cell? ⟨oN, 0, none⟩ = some (.int .i64 bJ) := (aA mD.out 0).trans rfl
    have Nz : w6.cell? ⟨oN, 1, none⟩ = some (.int .i64 bM) := (aA mD.out 1).trans rfl
    have Ny : w6.cell? ⟨oN, 2, none⟩ = some (.slice fA bD.length fF) := (aA mD.out 2).trans rfl
    have Hl := aS mD.out 0
    have Nr := aS mD.out 1
    have Nq := aS mD.out 2
    have JX : w6.cell? ⟨mQ, 0, none⟩ = some (.int .i64 bP) := (aA jI.out 0).trans rfl
    have JW : w6.cell? ⟨mQ, 1, none⟩ = some (.int .i64 bZ) := (aA jI.out 1).trans rfl
    have JV : w6.cell? ⟨mQ, 2, none⟩ = some (.slice dN bF.length dM) := (aA jI.out 2).trans rfl
    have JU : w6.cell? ⟨mQ, 3, none⟩ = some (.int .i64 yL) := (aA jI.out 3).trans rfl
    have JS : w6.cell? ⟨mQ, 4, none⟩ = some (.int .i64 yK) := (aA jI.out 4).trans rfl
    have JR : w6.cell? ⟨mQ, 5, none⟩ = some (.slice Bc uC.length Aj) := (aA jI.out 5).trans rfl
    have JL := aS jI.out 0
    have JK := aS jI.out 1
    have JJ := aS jI.out 2
    have JI := aS jI.out 3
    have JH := aS jI.out 4
    have JG := aS jI.out 5
    go_wp2
    go_meet
    case rel => exact ⟨_, ((bM != bP)), (by first | rfl | (simp; done) | (simp [*]; done)), H', ⟨by first | omega | exact Nat.le_refl _⟩, ⟨by (with_reducible repeat (first | refine aB ?_ _ | refine aH ?_ | refine aC ?_ _)); exact jI.out⟩, ⟨by (with_reducible repeat (first | refine aB ?_ _ | refine aH ?_ | refine aC ?_ _)); exact mD.out⟩, ⟨by repeat (first | (with_reducible first | exact HB.out | apply ak | apply ah | apply au | refine aG ?_ uu.out | refine aG ?_ AZ.out) | exact HB.out)⟩⟩
  · rw [if_neg c7] at H
    have uD : (bJ == 1) = false := beq_eq_false_iff_ne.mpr c7
    have NY : (bJ != 1) = true := bne_iff_ne.mpr c7
    (first | rw [uD] | (simp only [bK, bU]; rw [uD]) | skip)
    have H' := aj.mk H
    clear H
    have Qs := xK.out
    have Qp := xM.out
    have DJ : w6.cell? ⟨oN, 0, none⟩ = some (.int .i64 bJ) := (aA mD.out 0).trans rfl
    have DI : w6.cell? ⟨oN, 1, none⟩ = some (.int .i64 bM) := (aA mD.out 1).trans rfl
    have DF : w6.cell? ⟨oN, 2, none⟩ = some (.slice fA bD.length fF) := (aA mD.out 2).trans rfl
    have DD := aS mD.out 0
    have Dz := aS mD.out 1
    have Dy := aS mD.out 2
    go_wp2
    go_meet
    case rel => exact ⟨_, (true), (by first | rfl | (simp; done) | (simp [*]; done)), H', ⟨by first | omega | exact Nat.le_refl _⟩, ⟨by (with_reducible repeat (first | refine aB ?_ _ | refine aH ?_ | refine aC ?_ _)); exact jI.out⟩, ⟨by (with_reducible repeat (first | refine aB ?_ _ | refine aH ?_ | refine aC ?_ _)); exact mD.out⟩, ⟨by repeat (first | (with_reducible first | exact HB.out | apply ak | apply ah | apply au | refine aG ?_ uu.out | refine aG ?_ AZ.out) | exact HB.out)⟩⟩
 case rest =>
  clear Za
  try clear c1
  try clear p2
  try clear c7
  try clear uD
  try clear NY
  try clear c8
  try clear c11
  try clear JX
  try clear JW
  try clear JV
  try clear JU
  try clear JS
  try clear JR
  try clear DJ
  try clear DI
  try clear DF
  try clear Ht
  try clear Nz
  try clear Ny
  try clear JL
  try clear JK
  try clear JJ
  try clear JI
  try clear JH
  try clear JG
  try clear DD
  try clear Dz
  try clear Dy
  try clear Hl
  try clear Nr
  try clear Nq
  obtain ⟨kq, Ja, rfl, HA, HJ3, jI, mD, HB⟩ := hcut
  cases kq with
  | zero => exact absurd HA.out (by simp [dw.j0])
  | succ kj3 =>
    have H := HA.out
    clear HA
    simp only [dw.j0] at H
    by_cases c13 : Ja = true
    · subst c13
      rw [if_pos rfl] at H
      obtain rfl := Option.some.inj H
      go_wp2
      go_ret
      exact ⟨by first | rfl | (simp [aN, aK] <;> rfl) | (simp [*, aN, aK] <;> rfl), by repeat (first | (with_reducible first | exact HB.out | apply ak | apply ah | apply au | refine aG ?_ uu.out | refine aG ?_ AZ.out) | exact HB.out)⟩
    · replace c13 := Bool.eq_false_iff.mpr c13
      subst c13
      have H1 : (if a2 ≤ 0 then (some 1) else (some 0)) = some r := by rw [if_neg (show ¬ (false = true) by decide)] at H; exact H
      clear H
      have H := H1
      clear H1
      by_cases c14 : a2 ≤ 0
      · rw [if_pos c14] at H
        have rG : decide (a2 ≤ 0) = true := decide_eq_true c14
        clear c14
        obtain rfl := Option.some.inj H
        go_wp2
        go_ret
        exact ⟨by first | rfl | (simp [aN, aK] <;> rfl) | (simp [*, aN, aK] <;> rfl), by repeat (first | (with_reducible first | exact HB.out | apply ak | apply ah | apply au | refine aG ?_ uu.out | refine aG ?_ AZ.out) | exact HB.out)⟩
      · rw [if_neg c14] at H
        have rG : decide (a2 ≤ 0) = false := decide_eq_false c14
        clear c14
        obtain rfl := Option.some.inj H
        go_wp2
        go_ret
        exact ⟨by first | rfl | (simp [aN, aK] <;> rfl) | (simp [*, aN, aK] <;> rfl), by repeat (first | (with_reducible first | exact HB.out | apply ak | apply ah | apply au | refine aG ?_ uu.out | refine aG ?_ AZ.out) | exact HB.out)⟩
def kX.f (bP : Int) (bZ : Int) (bF : List Int) : Option (Int × Int) := some (bP, bZ)
theorem kX.calls (bP : Int) (bZ : Int) (dN : Option Addr) (dM : Nat) (bF : List Int) (r1 : Int) (r2 : Int) (w : World) (kN : Kd.C (Kd.int .i64) w dN bF.length bF) (lZ : bF.length ≤ dM) (h : kX.f bP bZ bF = some (r1, r2)) :
 Calls Try.prog 107 #[.agg #[.int .i64 bP, .int .i64 bZ, .slice dN bF.length dM]] w fun e w' => e = .returned (.agg #[.int .i64 r1, .int .i64 r2]) ∧ Below w.heap.size w w' := by
 have G_ := Try.underlying31
 have Zw := Try.underlying134
 have wK := aj.mk kN
 have wM := aj.mk lZ
 clear kN lZ
 have HB := aj.mk (Below.refl w.heap.size w)
 have H : (some (bP, bZ)) = some (r1, r2) := h
 clear h
 simp only [Option.some.injEq, Prod.mk.injEq] at H
 obtain ⟨rfl, rfl⟩ := H
 go_enter Try.func107, Try.ntmps107
 go_wp2_with (first | ((with_reducible refine dQ (N := 1) rfl ?_); refine dJ ?hg (N := 1) ?hd (cs := #[.int .i64 bP, .int .i64 bZ, .slice dN bF.length dM]) (t := 31) ?hr ?_; (case hd => rfl); (case hg => rfl); (case hr => first | (go_simp; done) | (go_simp; rfl)); intro ql hg w2 hbox hb; have bu := aj.mk (aO (by repeat (first | (with_reducible first | exact HB.out | apply ak | apply ah | apply au) | exact HB.out)) hb); have fE := aj.mk (hbox); have fD := aj.mk ((by rw [hg]; exact (bC (by repeat (first | (with_reducible first | exact HB.out | apply ak | apply ah | apply au) | exact HB.out))) : w.heap.size ≤ ql)); have iq := aj.mk ((by rw [hg]; exact (bC (by repeat (first | (with_reducible first | exact HB.out | apply ak | apply ah | apply au) | exact HB.out))) : w.heap.size ≤ ql)); clear HB; have HB := bu; have pg := fE; have abd := fD; have Ei := iq; clear bu fE fD iq; clear hb hbox hg) | ((with_reducible refine dQ (N := 2) rfl ?_); refine dJ ?hg (N := 2) ?hd (cs := #[.int .i64 0, .int .i64 0]) (t := 134) ?hr ?_; (case hd => rfl); (case hg => rfl); (case hr => first | (go_simp; done) | (go_simp; rfl)); intro vW hg w3 hbox hb; have bu := aj.mk (bG (g := ql) (o := .cells #[.int .i64 bP, .int .i64 bZ, .slice dN bF.length dM] 31 (0, 0)) (by (with_reducible repeat (first | refine aB ?_ _ | refine aH ?_ | refine aC ?_ _)); exact pg.out) hb); have fE := aj.mk (aO (by repeat (first | (with_reducible first | exact HB.out | apply ak | apply ah | apply au | refine aG ?_ Ei.out) | exact HB.out)) hb); have fD := aj.mk (hbox); have iq := aj.mk ((by rw [hg]; exact (bC (by repeat (first | (with_reducible first | exact HB.out | apply ak | apply ah | apply au | refine aG ?_ Ei.out) | exact HB.out))) : w.heap.size ≤ vW)); have jP := aj.mk ((by rw [hg]; exact (bC (by repeat (first | (with_reducible first | exact HB.out | apply ak | apply ah | apply au | refine aG ?_ Ei.out) | exact HB.out))) : w.heap.size ≤ vW)); have ku := aj.mk ((by rw [hg]; exact Nat.ne_of_lt (dU (g := ql) (o := .cells #[.int .i64 bP, .int .i64 bZ, .slice dN bF.length dM] 31 (0, 0)) (by (with_reducible repeat (first | refine aB ?_ _ | refine aH ?_ | refine aC ?_ _)); exact pg.out)) : ql ≠ vW)); have kM := aj.mk ((by rw [hg]; exact Nat.ne_of_gt (dU (g := ql) (o := .cells #[.int .i64 bP, .int .i64 bZ, .slice dN bF.length dM] 31 (0, 0)) (by (with_reducible repeat (first | refine aB ?_ _ | refine aH ?_ | refine aC ?_ _)); exact pg.out)) : vW ≠ ql)); clear pg; clear HB; have pg := bu; have HB := fE; have A_ := fD; have abb := iq; have Uc := jP; have F9 := ku; have F8 := kM; clear bu fE fD iq jP ku kM; clear hb hbox hg; have ab8 := F9.out; have ab4 := F8.out; have XE : w3.cell? ⟨ql, 0, none⟩ = some (.int .i64 bP) := (aA pg.out 0).trans rfl; have XD : w3.cell? ⟨ql, 1, none⟩ = some (.int .i64 bZ) := (aA pg.out 1).trans rfl; have XC : w3.cell? ⟨ql, 2, none⟩ = some (.slice dN bF.length dM) := (aA pg.out 2).trans rfl; have Xr := aS pg.out 0; have Xq := aS pg.out 1; have Xp := aS pg.out 2; have Hw : w3.cell? ⟨vW, 0, none⟩ = some (.int .i64 0) := (aA A_.out 0).trans rfl; have Hu : w3.cell? ⟨vW, 1, none⟩ = some (.int .i64 0) := (aA A_.out 1).trans rfl; have Hq := aS A_.out 0; have Ho := aS A_.out 1))
 refine bodyPost_ret (results_cell_row rfl _ _ vW 134 #[.int .i64 bP, .int .i64 bZ] (0, 0) _ rfl (by (with_reducible repeat (first | refine aB ?_ _ | refine aH ?_ | refine aC ?_ _)); refine dS (cs := #[.int .i64 bP, .int .i64 0]) ?_ 1 _ rfl; (with_reducible repeat (first | refine aB ?_ _ | refine aH ?_ | refine aC ?_ _)); refine dS (cs := #[.int .i64 0, .int .i64 0]) ?_ 0 _ rfl; (with_reducible repeat (first | refine aB ?_ _ | refine aH ?_ | refine aC ?_ _)); exact A_.out) Try.underlying134 rfl (by kernel_rfl)) rfl ?_
 exact ⟨by first | rfl | (simp [aN, aK] <;> rfl) | (simp [*, aN, aK] <;> rfl), by repeat (first | (with_reducible first | exact HB.out | apply ak | apply ah | apply au | refine aG ?_ Ei.out | refine aG ?_ Uc.out) | exact HB.out)⟩
def dB.l0 : Nat → List Int → List Int → Int → Int → Option (Bool)
 | 0, _, _, _, _ => none
 | k + 1, x0, x1, x12, w_ => if w_ < x12 then (if 0 ≤ w_ then (if w_ < (x0.length : Int) then (if w_ < (x1.length : Int) then (if (rd x0 w_) = (rd x1 w_) then (dB.l0 k x0 x1 x12 (wrap64 (w_ + 1))) else (some false)) else (none)) else (none)) else (none)) else (some true)
def dB.f (k : Nat) (l0 : List Int) (l1 : List Int) : Option (Bool) := if (l0.length : Int) = (l1.length : Int) then (dB.l0 k l0 l1 (l0.length : Int) 0) else (some false)
theorem dB.calls (k : Nat) (A0 : Option Addr) (c0 : Nat) (l0 : List Int) (A1 : Option Addr) (c1 : Nat) (l1 : List Int) (r : Bool) (w : World) (hr0 : Kd.C (Kd.int .i64) w A0 l0.length l0) (hc0 : l0.length ≤ c0) (hr1 : Kd.C (Kd.int .i64) w A1 l1.length l1) (hc1 : l1.length ≤ c1) (h : dB.f k l0 l1 = some r) :
 Calls Try.prog 108 #[.slice A0 l0.length c0, .slice A1 l1.length c1] w fun e w' => e = .returned (.bool r) ∧ bf w w' := by
 have HR0 := aj.mk hr0
 have Zc := aj.mk hc0
 clear hr0 hc0
 have HR1 := aj.mk hr1
 have Zb := aj.mk hc1
 clear hr1 hc1
 have H : (if (l0.length : Int) = (l1.length : Int) then (dB.l0 k l0 l1 (l0.length : Int) 0) else (some false)) = some r := h
 clear h
 by_cases c3 : (l0.length : Int) = (l1.length : Int)
 · rw [if_pos c3] at H
   have QO : ((l0.length : Int) == (l1.length : Int)) = true := beq_iff_eq.mpr c3
   have QN : ((l0.length : Int) != (l1.length : Int)) = false := bne_eq_false_iff_eq.mpr c3
   have QM : (l0.length == l1.length) = true := by first | simpa using c3 | (simp at c3 ⊢; omega)
   clear c3
   have H' := aj.mk H
   clear H
   go_enter Try.func108, Try.ntmps108
   go_wp2
   repeat (go_quiet (fail); try go_wp2)
   go_loopg [13] k (fun kq v13 w' => ∃ (d_ : Int), v13 = .int .i64 d_ ∧ aj (dB.l0 kq l0 l1 (l0.length : Int) d_ = some r) ∧ aj (kq ≤ k) ∧ bf w w')
   case atStart => exact ⟨(0), (by first | rfl | (simp; done) | (simp [*]; done)), H', ⟨Nat.le_refl _⟩, by repeat (first | exact bf.refl _ | apply bf.step)⟩
   case round =>
    clear H'
    try clear c1
    try clear p2
    try clear c3
    try clear QO
    try clear QN
    try clear QM
    obtain ⟨d_, rfl, HA, AV, ⟨m1, rfl⟩⟩ := hrel
    cases gk with
    | zero => exact absurd HA.out (by simp [dB.l0])
    | succ k1 =>
      have H := HA.out
      clear HA
      simp only [dB.l0] at H
      by_cases c4 : d_ < (l0.length : Int)
      · rw [if_pos c4] at H
        have yJ : decide (d_ < (l0.length : Int)) = true := decide_eq_true c4
        clear c4
        by_cases c5 : 0 ≤ d_
        · rw [if_pos c5] at H
          have uF : decide (0 ≤ d_) = true := decide_eq_true c5
          clear c5
          by_cases c6 : d_ < (l0.length : Int)
          · rw [if_pos c6] at H
            have CJ : decide (d_ < (l0.length : Int)) = true := decide_eq_true c6
            clear c6
            by_cases c7 : d_ < (l1.length : Int)
            · rw [if_pos c7] at H
              have uD : decide (d_ < (l1.length : Int)) = true := decide_eq_true c7
              clear c7
              by_cases c8 : (rd l0 d_) = (rd l1 d_)
              · rw [if_pos c8] at H
                have Ir : ((rd l0 d_) == (rd l1 d_)) = true := beq_iff_eq.mpr c8
                have Yc : ((rd l0 d_) != (rd l1 d_)) = false := bne_eq_false_iff_eq.mpr c8
                clear c8
                have H' := aj.mk H
                clear H
                have BJ : 0 ≤ (d_ : Int) := of_decide_eq_true (by first | (with_reducible assumption) | assumption)
                have BH : d_ < (l0.length : Int) := of_decide_eq_true (by first | (with_reducible assumption) | assumption)
                obtain ⟨Q_, NJ, JA⟩ := Kd.wG HR0.out d_ BJ BH
                cases NJ
                replace BJ := eq_true BJ
                replace BH := eq_true BH
                have BI : 0 ≤ (d_ : Int) := of_decide_eq_true (by first | (with_reducible assumption) | assumption)
                have BG : d_ < (l1.length : Int) := of_decide_eq_true (by first | (with_reducible assumption) | assumption)
                obtain ⟨Q9, NI, Jz⟩ := Kd.wG HR1.out d_ BI BG
                cases NI
                replace BI := eq_true BI
                replace BG := eq_true BG
                go_wp2
                repeat (go_quiet (fail); try go_wp2)
                go_roundg k1
                case measure => have := AV.out; omega
                case rel => exact ⟨(wrap64 (d_ + 1)), (by first | rfl | (simp; done) | (simp [*]; done)), H', ⟨by have := AV.out; omega⟩, by repeat (first | exact bf.refl _ | apply bf.step)⟩
              · rw [if_neg c8] at H
                have Ir : ((rd l0 d_) == (rd l1 d_)) = false := beq_eq_false_iff_ne.mpr c8
                have Yc : ((rd l0 d_) != (rd l1 d_)) = true := bne_iff_ne.mpr c8
                obtain rfl := Option.some.inj H
                have BJ : 0 ≤ (d_ : Int) := of_decide_eq_true (by first | (with_reducible assumption) | assumption)
                have BH : d_ < (l0.length : Int) := of_decide_eq_true (by first | (with_reducible assumption) | assumption)
                obtain ⟨Q_, NJ, JA⟩ := Kd.wG HR0.out d_ BJ BH
                cases NJ
                replace BJ := eq_true BJ
                replace BH := eq_true BH
                have BI : 0 ≤ (d_ : Int) := of_decide_eq_true (by first | (with_reducible assumption) | assumption)
                have BG : d_ < (l1.length : Int) := of_decide_eq_true (by first | (with_reducible assumption) | assumption)
                obtain ⟨Q9, NI, Jz⟩ := Kd.wG HR1.out d_ BI BG
                cases NI
                replace BI := eq_true BI
                replace BG := eq_true BG
                go_wp2
                repeat (go_quiet (fail); try go_wp2)
                go_ret
                exact ⟨by first | rfl | (simp; done) | (simp [*]; done), by repeat (first | exact bf.refl _ | apply bf.step)⟩
            · rw [if_neg c7] at H
              exact absurd H (by simp)
          · rw [if_neg c6] at H
            exact absurd H (by simp)
        · rw [if_neg c5] at H
          exact absurd H (by simp)
      · rw [if_neg c4] at H
        have yJ : decide (d_ < (l0.length : Int)) = false := decide_eq_false c4
        clear c4
        obtain rfl := Option.some.inj H
        go_wp2
        repeat (go_quiet (fail); try go_wp2)
        go_ret
        exact ⟨by first | rfl | (simp; done) | (simp [*]; done), by repeat (first | exact bf.refl _ | apply bf.step)⟩
 · rw [if_neg c3] at H
   have QO : ((l0.length : Int) == (l1.length : Int)) = false := beq_eq_false_iff_ne.mpr c3
   have QN : ((l0.length : Int) != (l1.length : Int)) = true := bne_iff_ne.mpr c3
   have QM : (l0.length == l1.length) = false := by first | simpa using c3 | (simp at c3 ⊢; omega)
   obtain rfl := Option.some.inj H
   go_enter Try.func108, Try.ntmps108
   go_wp2
   repeat (go_quiet (fail); try go_wp2)
   go_ret
   exact ⟨by first | rfl | (simp; done) | (simp [*]; done), by repeat (first | exact bf.refl _ | apply bf.step)⟩
end Go.Proofs.Ytnijhjbcjeohhaa.PQ

