import Derived.Test.YtnijhjbcjeohhaaU2
/- Joined and thinned by a program of this session's own (wip/pack2.py) out of its texts (wip/ of its repo); parts were laid by its own program (wip/print-patch.py over the kit's print) out of the translation; Lean checks all. -/
set_option maxRecDepth 100000
set_option maxHeartbeats 8000000
namespace Go.Proofs.Ytnijhjbcjeohhaa.PQ
open Go.RowKit Go.Proofs.af.aO Go.Proofs.af.aV Go.Proofs.af.aX
attribute [local go_sem] iU iR jU jT gY gX iT iQ
set_option linter.unusedVariables false
set_option linter.unusedSimpArgs false
mutual
def aQ.j2 : Nat → Int → Int → Int → Int → Int → Int → Int → Int → Option (Int × Int)
 | 0, _, _, _, _, _, _, _, _ => none
 | k + 1, x2, x8, x9, x10, x11, FI, x14, x15 => if x9 = 0 then (none) else (aQ.l1 k x2 x8 x9 x10 x14 x15 (IntKind.u64.wrap ((IntKind.u64.wrap ((IntKind.u64.wrap ((IntKind.u64.wrap (x11 * 4294967296)) + FI)) - (IntKind.u64.wrap (x15 * x2)))) - (IntKind.u64.wrap ((IntKind.u64.wrap (Int.tdiv (IntKind.u64.wrap ((IntKind.u64.wrap ((IntKind.u64.wrap (x11 * 4294967296)) + FI)) - (IntKind.u64.wrap (x15 * x2)))) x9)) * x9)))) (IntKind.u64.wrap ((IntKind.u64.wrap ((IntKind.u64.wrap (x11 * 4294967296)) + FI)) - (IntKind.u64.wrap (x15 * x2)))) (IntKind.u64.wrap (Int.tdiv (IntKind.u64.wrap ((IntKind.u64.wrap ((IntKind.u64.wrap (x11 * 4294967296)) + FI)) - (IntKind.u64.wrap (x15 * x2)))) x9)))
def aQ.l1 : Nat → Int → Int → Int → Int → Int → Int → Int → Int → Int → Option (Int × Int)
 | 0, _, _, _, _, _, _, _, _, _ => none
 | k + 1, x2, x8, x9, x10, x14, x15, x16, x17, x18 => if x18 ≥ 4294967296 then (aQ.j4 k x2 x8 x9 x10 x14 x15 x16 x17 x18 true) else (aQ.j4 k x2 x8 x9 x10 x14 x15 x16 x17 x18 (decide ((IntKind.u64.wrap (x18 * x10)) > (IntKind.u64.wrap ((IntKind.u64.wrap (4294967296 * x16)) + x14)))))
def aQ.j4 : Nat → Int → Int → Int → Int → Int → Int → Int → Int → Int → Bool → Option (Int × Int)
 | 0, _, _, _, _, _, _, _, _, _, _ => none
 | k + 1, x2, x8, x9, x10, x14, x15, x16, x17, x18, x113 => if x113 = true then (if (IntKind.u64.wrap (x16 + x9)) ≥ 4294967296 then (if 0 ≤ x8 then (some (IntKind.u64.wrap ((IntKind.u64.wrap (x15 * 4294967296)) + (IntKind.u64.wrap (x18 - 1))), shr .u64 (IntKind.u64.wrap ((IntKind.u64.wrap ((IntKind.u64.wrap (x17 * 4294967296)) + x14)) - (IntKind.u64.wrap ((IntKind.u64.wrap (x18 - 1)) * x2)))) x8)) else (none)) else (aQ.l1 k x2 x8 x9 x10 x14 x15 (IntKind.u64.wrap (x16 + x9)) x17 (IntKind.u64.wrap (x18 - 1)))) else (if 0 ≤ x8 then (some (IntKind.u64.wrap ((IntKind.u64.wrap (x15 * 4294967296)) + x18), shr .u64 (IntKind.u64.wrap ((IntKind.u64.wrap ((IntKind.u64.wrap (x17 * 4294967296)) + x14)) - (IntKind.u64.wrap (x18 * x2)))) x8)) else (none))
def aQ.l0 : Nat → Int → Int → Int → Int → Int → Int → Int → Int → Int → Option (Int × Int)
 | 0, _, _, _, _, _, _, _, _, _ => none
 | k + 1, x2, x8, x9, x10, x11, FI, x14, x15, x16 => if x15 ≥ 4294967296 then (aQ.j1 k x2 x8 x9 x10 x11 FI x14 x15 x16 true) else (aQ.j1 k x2 x8 x9 x10 x11 FI x14 x15 x16 (decide ((IntKind.u64.wrap (x15 * x10)) > (IntKind.u64.wrap ((IntKind.u64.wrap (4294967296 * x16)) + FI)))))
def aQ.j1 : Nat → Int → Int → Int → Int → Int → Int → Int → Int → Int → Bool → Option (Int × Int)
 | 0, _, _, _, _, _, _, _, _, _, _ => none
 | k + 1, x2, x8, x9, x10, x11, FI, x14, x15, x16, x78 => if x78 = true then (if (IntKind.u64.wrap (x16 + x9)) ≥ 4294967296 then (aQ.j2 k x2 x8 x9 x10 x11 FI x14 (IntKind.u64.wrap (x15 - 1))) else (aQ.l0 k x2 x8 x9 x10 x11 FI x14 (IntKind.u64.wrap (x15 - 1)) (IntKind.u64.wrap (x16 + x9)))) else (aQ.j2 k x2 x8 x9 x10 x11 FI x14 x15)
end
def aQ.f (k : Nat) (a0 : Int) (a1 : Int) (a2 : Int) : Option (Int × Int) := if a2 = 0 then (none) else (if a2 ≤ a0 then (none) else (if a0 = 0 then (some (IntKind.u64.wrap (Int.tdiv a1 a2), Int.tmod a1 a2)) else ((bits_LeadingZeros64.f a2).bind fun t120 => (if 0 ≤ (IntKind.u64.wrap (t120)) then (if 0 ≤ (IntKind.u64.wrap (64 - (IntKind.u64.wrap (t120)))) then (if ((shl .u64 a2 (IntKind.u64.wrap (t120))) / 4294967296) = 0 then (none) else (aQ.l0 k (shl .u64 a2 (IntKind.u64.wrap (t120))) (IntKind.u64.wrap (t120)) ((shl .u64 a2 (IntKind.u64.wrap (t120))) / 4294967296) (Go.bits .and .u64 (shl .u64 a2 (IntKind.u64.wrap (t120))) 4294967295) (Go.bits .or .u64 (shl .u64 a0 (IntKind.u64.wrap (t120))) (shr .u64 a1 (IntKind.u64.wrap (64 - (IntKind.u64.wrap (t120)))))) ((shl .u64 a1 (IntKind.u64.wrap (t120))) / 4294967296) (Go.bits .and .u64 (shl .u64 a1 (IntKind.u64.wrap (t120))) 4294967295) (IntKind.u64.wrap (Int.tdiv (Go.bits .or .u64 (shl .u64 a0 (IntKind.u64.wrap (t120))) (shr .u64 a1 (IntKind.u64.wrap (64 - (IntKind.u64.wrap (t120)))))) ((shl .u64 a2 (IntKind.u64.wrap (t120))) / 4294967296))) (IntKind.u64.wrap ((Go.bits .or .u64 (shl .u64 a0 (IntKind.u64.wrap (t120))) (shr .u64 a1 (IntKind.u64.wrap (64 - (IntKind.u64.wrap (t120)))))) - (IntKind.u64.wrap ((IntKind.u64.wrap (Int.tdiv (Go.bits .or .u64 (shl .u64 a0 (IntKind.u64.wrap (t120))) (shr .u64 a1 (IntKind.u64.wrap (64 - (IntKind.u64.wrap (t120)))))) ((shl .u64 a2 (IntKind.u64.wrap (t120))) / 4294967296))) * ((shl .u64 a2 (IntKind.u64.wrap (t120))) / 4294967296))))))) else (none)) else (none)))))
theorem aQ.calls (k : Nat) (a0 : Int) (a1 : Int) (a2 : Int) (r1 : Int) (r2 : Int) (w : World) (h : aQ.f k a0 a1 a2 = some (r1, r2)) :
 Calls Try.prog 112 #[.int .u64 a0, .int .u64 a1, .int .u64 a2] w fun e w' => e = .returned (.tuple #[.int .u64 r1, .int .u64 r2]) ∧ bV w w' := by
 have H : (if a2 = 0 then (none) else (if a2 ≤ a0 then (none) else (if a0 = 0 then (some (IntKind.u64.wrap (Int.tdiv a1 a2), Int.tmod a1 a2)) else ((bits_LeadingZeros64.f a2).bind fun t120 => (if 0 ≤ (IntKind.u64.wrap (t120)) then (if 0 ≤ (IntKind.u64.wrap (64 - (IntKind.u64.wrap (t120)))) then (if ((shl .u64 a2 (IntKind.u64.wrap (t120))) / 4294967296) = 0 then (none) else (aQ.l0 k (shl .u64 a2 (IntKind.u64.wrap (t120))) (IntKind.u64.wrap (t120)) ((shl .u64 a2 (IntKind.u64.wrap (t120))) / 4294967296) (Go.bits .and .u64 (shl .u64 a2 (IntKind.u64.wrap (t120))) 4294967295) (Go.bits .or .u64 (shl .u64 a0 (IntKind.u64.wrap (t120))) (shr .u64 a1 (IntKind.u64.wrap (64 - (IntKind.u64.wrap (t120)))))) ((shl .u64 a1 (IntKind.u64.wrap (t120))) / 4294967296) (Go.bits .and .u64 (shl .u64 a1 (IntKind.u64.wrap (t120))) 4294967295) (IntKind.u64.wrap (Int.tdiv (Go.bits .or .u64 (shl .u64 a0 (IntKind.u64.wrap (t120))) (shr .u64 a1 (IntKind.u64.wrap (64 - (IntKind.u64.wrap (t120)))))) ((shl .u64 a2 (IntKind.u64.wrap (t120))) / 4294967296))) (IntKind.u64.wrap ((Go.bits .or .u64 (shl .u64 a0 (IntKind.u64.wrap (t120))) (shr .u64 a1 (IntKind.u64.wrap (64 - (IntKind.u64.wrap (t120)))))) - (IntKind.u64.wrap ((IntKind.u64.wrap (Int.tdiv (Go.bits .or .u64 (shl .u64 a0 (IntKind.u64.wrap (t120))) (shr .u64 a1 (IntKind.u64.wrap (64 - (IntKind.u64.wrap (t120)))))) ((shl .u64 a2 (IntKind.u64.wrap (t120))) / 4294967296))) * ((shl .u64 a2 (IntKind.u64.wrap (t120))) / 4294967296))))))) else (none)) else (none)))))) = some (r1, r2) := h
 clear h
 by_cases c4 : a2 = 0
 · rw [if_pos c4] at H
   exact absurd H (by simp)
 · rw [if_neg c4] at H
   have vT : (a2 == 0) = false := beq_eq_false_iff_ne.mpr c4
   have Oh : (a2 != 0) = true := bne_iff_ne.mpr c4
   by_cases c5 : a2 ≤ a0
   · rw [if_pos c5] at H
     exact absurd H (by simp)
   · rw [if_neg c5] at H
     have BM : decide (a2 ≤ a0) = false := decide_eq_false c5
     clear c5
     by_cases c6 : a0 = 0
     · rw [if_pos c6] at H
       have qC : (a0 == 0) = true := beq_iff_eq.mpr c6
       have FB : (a0 != 0) = false := bne_eq_false_iff_eq.mpr c6
       clear c6
       simp only [Option.some.injEq, Prod.mk.injEq] at H
       obtain ⟨rfl, rfl⟩ := H
       go_enter Try.func112, Try.ntmps112
       go_wp2
       repeat (go_quiet (fail); try go_wp2)
       go_ret2
       exact ⟨by first | rfl | (simp; done) | (simp [*]; done), by repeat (first | exact bV.refl _ | apply bV.step)⟩
     · rw [if_neg c6] at H
       have qC : (a0 == 0) = false := beq_eq_false_iff_ne.mpr c6
       have FB : (a0 != 0) = true := bne_iff_ne.mpr c6
       replace H := Option.bind_eq_some_iff.mp H
       obtain ⟨t120, YR, H⟩ := H
       replace H : (if 0 ≤ (IntKind.u64.wrap (t120)) then (if 0 ≤ (IntKind.u64.wrap (64 - (IntKind.u64.wrap (t120)))) then (if ((shl .u64 a2 (IntKind.u64.wrap (t120))) / 4294967296) = 0 then (none) else (aQ.l0 k (shl .u64 a2 (IntKind.u64.wrap (t120))) (IntKind.u64.wrap (t120)) ((shl .u64 a2 (IntKind.u64.wrap (t120))) / 4294967296) (Go.bits .and .u64 (shl .u64 a2 (IntKind.u64.wrap (t120))) 4294967295) (Go.bits .or .u64 (shl .u64 a0 (IntKind.u64.wrap (t120))) (shr .u64 a1 (IntKind.u64.wrap (64 - (IntKind.u64.wrap (t120)))))) ((shl .u64 a1 (IntKind.u64.wrap (t120))) / 4294967296) (Go.bits .and .u64 (shl .u64 a1 (IntKind.u64.wrap (t120))) 4294967295) (IntKind.u64.wrap (Int.tdiv (Go.bits .or .u64 (shl .u64 a0 (IntKind.u64.wrap (t120))) (shr .u64 a1 (IntKind.u64.wrap (64 - (IntKind.u64.wrap (t120)))))) ((shl .u64 a2 (IntKind.u64.wrap (t120))) / 4294967296))) (IntKind.u64.wrap ((Go.bits .or .u64 (shl .u64 a0 (IntKind.u64.wrap (t120))) (shr .u64 a1 (IntKind.u64.wrap (64 - (IntKind.u64.wrap (t120)))))) - (IntKind.u64.wrap ((IntKind.u64.wrap (Int.tdiv (Go.bits .or .u64 (shl .u64 a0 (IntKind.u64.wrap (t120))) (shr .u64 a1 (IntKind.u64.wrap (64 - (IntKind.u64.wrap (t120)))))) ((shl .u64 a2 (IntKind.u64.wrap (t120))) / 4294967296))) * ((shl .u64 a2 (IntKind.u64.wrap (t120))) / 4294967296))))))) else (none)) else (none)) = some (r1, r2) := H
       have A7 := aj.mk YR
       clear YR
       obtain ⟨jm, Um⟩ : ∃ j_ : Int, (IntKind.u64.wrap (t120)) = j_ := ⟨_, rfl⟩
       replace H : (if 0 ≤ (jm) then (if 0 ≤ (IntKind.u64.wrap (64 - (jm))) then (if ((shl .u64 a2 (jm)) / 4294967296) = 0 then (none) else (aQ.l0 k (shl .u64 a2 (jm)) jm ((shl .u64 a2 (jm)) / 4294967296) (Go.bits .and .u64 (shl .u64 a2 (jm)) 4294967295) (Go.bits .or .u64 (shl .u64 a0 (jm)) (shr .u64 a1 (IntKind.u64.wrap (64 - (jm))))) ((shl .u64 a1 (jm)) / 4294967296) (Go.bits .and .u64 (shl .u64 a1 (jm)) 4294967295) (IntKind.u64.wrap (Int.tdiv (Go.bits .or .u64 (shl .u64 a0 (jm)) (shr .u64 a1 (IntKind.u64.wrap (64 - (jm))))) ((shl .u64 a2 (jm)) / 4294967296))) (IntKind.u64.wrap ((Go.bits .or .u64 (shl .u64 a0 (jm)) (shr .u64 a1 (IntKind.u64.wrap (64 - (jm))))) - (IntKind.u64.wrap ((IntKind.u64.wrap (Int.tdiv (Go.bits .or .u64 (shl .u64 a0 (jm)) (shr .u64 a1 (IntKind.u64.wrap (64 - (jm))))) ((shl .u64 a2 (jm)) / 4294967296))) * ((shl .u64 a2 (jm)) / 4294967296))))))) else (none)) else (none)) = some (r1, r2) := by first | (rw [Um] at H; exact H) | (simp only [Um] at H ⊢; exact H)
       (try rw [Um] at A7)
       by_cases c9 : 0 ≤ (jm)
       · rw [if_pos c9] at H
         have KL := eq_true c9
         have Oe : decide (0 ≤ (jm)) = true := decide_eq_true c9
         clear c9
         obtain ⟨dK, qy⟩ : ∃ j_ : Int, (shl .u64 a2 (jm)) = j_ := ⟨_, rfl⟩
         replace H : (if 0 ≤ (IntKind.u64.wrap (64 - (jm))) then (if ((dK) / 4294967296) = 0 then (none) else (aQ.l0 k dK jm ((dK) / 4294967296) (Go.bits .and .u64 (dK) 4294967295) (Go.bits .or .u64 (shl .u64 a0 (jm)) (shr .u64 a1 (IntKind.u64.wrap (64 - (jm))))) ((shl .u64 a1 (jm)) / 4294967296) (Go.bits .and .u64 (shl .u64 a1 (jm)) 4294967295) (IntKind.u64.wrap (Int.tdiv (Go.bits .or .u64 (shl .u64 a0 (jm)) (shr .u64 a1 (IntKind.u64.wrap (64 - (jm))))) ((dK) / 4294967296))) (IntKind.u64.wrap ((Go.bits .or .u64 (shl .u64 a0 (jm)) (shr .u64 a1 (IntKind.u64.wrap (64 - (jm))))) - (IntKind.u64.wrap ((IntKind.u64.wrap (Int.tdiv (Go.bits .or .u64 (shl .u64 a0 (jm)) (shr .u64 a1 (IntKind.u64.wrap (64 - (jm))))) ((dK) / 4294967296))) * ((dK) / 4294967296))))))) else (none)) = some (r1, r2) := by first | (rw [qy] at H; exact H) | (simp only [qy] at H ⊢; exact H)
         (try rw [qy] at A7)
         have ag6 : (IntKind.u64.wrap (a2 * 2 ^ min (jm).toNat 64)) = dK := qy
         have ag5 : (jm) ≤ 64 → (IntKind.u64.wrap (a2 * 2 ^ (jm).toNat)) = dK := zG qy
         have Ey := eq_true (of_decide_eq_true (by first | (with_reducible assumption) | assumption) : 0 ≤ (jm))
         obtain ⟨jP, vF⟩ : ∃ j_ : Int, (shl .u64 a0 (jm)) = j_ := ⟨_, rfl⟩
         replace H : (if 0 ≤ (IntKind.u64.wrap (64 - (jm))) then (if ((dK) / 4294967296) = 0 then (none) else (aQ.l0 k dK jm ((dK) / 4294967296) (Go.bits .and .u64 (dK) 4294967295) (Go.bits .or .u64 (jP) (shr .u64 a1 (IntKind.u64.wrap (64 - (jm))))) ((shl .u64 a1 (jm)) / 4294967296) (Go.bits .and .u64 (shl .u64 a1 (jm)) 4294967295) (IntKind.u64.wrap (Int.tdiv (Go.bits .or .u64 (jP) (shr .u64 a1 (IntKind.u64.wrap (64 - (jm))))) ((dK) / 4294967296))) (IntKind.u64.wrap ((Go.bits .or .u64 (jP) (shr .u64 a1 (IntKind.u64.wrap (64 - (jm))))) - (IntKind.u64.wrap ((IntKind.u64.wrap (Int.tdiv (Go.bits .or .u64 (jP) (shr .u64 a1 (IntKind.u64.wrap (64 - (jm))))) ((dK) / 4294967296))) * ((dK) / 4294967296))))))) else (none)) = some (r1, r2) := by first | (rw [vF] at H; exact H) | (simp only [vF] at H ⊢; exact H)
         (try rw [vF] at A7)
         have ag4 : (IntKind.u64.wrap (a0 * 2 ^ min (jm).toNat 64)) = jP := vF
         have ag3 : (jm) ≤ 64 → (IntKind.u64.wrap (a0 * 2 ^ (jm).toNat)) = jP := zG vF
         obtain ⟨DF, J_⟩ : ∃ j_ : Int, (IntKind.u64.wrap (64 - (jm))) = j_ := ⟨_, rfl⟩
         replace H : (if 0 ≤ (DF) then (if ((dK) / 4294967296) = 0 then (none) else (aQ.l0 k dK jm ((dK) / 4294967296) (Go.bits .and .u64 (dK) 4294967295) (Go.bits .or .u64 (jP) (shr .u64 a1 (DF))) ((shl .u64 a1 (jm)) / 4294967296) (Go.bits .and .u64 (shl .u64 a1 (jm)) 4294967295) (IntKind.u64.wrap (Int.tdiv (Go.bits .or .u64 (jP) (shr .u64 a1 (DF))) ((dK) / 4294967296))) (IntKind.u64.wrap ((Go.bits .or .u64 (jP) (shr .u64 a1 (DF))) - (IntKind.u64.wrap ((IntKind.u64.wrap (Int.tdiv (Go.bits .or .u64 (jP) (shr .u64 a1 (DF))) ((dK) / 4294967296))) * ((dK) / 4294967296))))))) else (none)) = some (r1, r2) := by first | (rw [J_] at H; exact H) | (simp only [J_] at H ⊢; exact H)
         (try rw [J_] at A7)
         by_cases c14 : 0 ≤ (DF)
         · rw [if_pos c14] at H
           have oP := eq_true c14
           have uF : decide (0 ≤ (DF)) = true := decide_eq_true c14
           clear c14
           obtain ⟨mZ, vC⟩ : ∃ j_ : Int, (shr .u64 a1 (DF)) = j_ := ⟨_, rfl⟩
           replace H : (if ((dK) / 4294967296) = 0 then (none) else (aQ.l0 k dK jm ((dK) / 4294967296) (Go.bits .and .u64 (dK) 4294967295) (Go.bits .or .u64 (jP) (mZ)) ((shl .u64 a1 (jm)) / 4294967296) (Go.bits .and .u64 (shl .u64 a1 (jm)) 4294967295) (IntKind.u64.wrap (Int.tdiv (Go.bits .or .u64 (jP) (mZ)) ((dK) / 4294967296))) (IntKind.u64.wrap ((Go.bits .or .u64 (jP) (mZ)) - (IntKind.u64.wrap ((IntKind.u64.wrap (Int.tdiv (Go.bits .or .u64 (jP) (mZ)) ((dK) / 4294967296))) * ((dK) / 4294967296))))))) = some (r1, r2) := by first | (rw [vC] at H; exact H) | (simp only [vC] at H ⊢; exact H)
           (try rw [vC] at A7)
           have ag1 : (a1 / 2 ^ min (DF).toNat 64) = mZ := vC
           have ag0 : (DF) ≤ 64 → (a1 / 2 ^ (DF).toNat) = mZ := zF vC
           have Gs := eq_true (of_decide_eq_true (by first | (with_reducible assumption) | assumption) : 0 ≤ (jm))
           obtain ⟨jC, qx⟩ : ∃ j_ : Int, (shl .u64 a1 (jm)) = j_ := ⟨_, rfl⟩
           replace H : (if ((dK) / 4294967296) = 0 then (none) else (aQ.l0 k dK jm ((dK) / 4294967296) (Go.bits .and .u64 (dK) 4294967295) (Go.bits .or .u64 (jP) (mZ)) ((jC) / 4294967296) (Go.bits .and .u64 (jC) 4294967295) (IntKind.u64.wrap (Int.tdiv (Go.bits .or .u64 (jP) (mZ)) ((dK) / 4294967296))) (IntKind.u64.wrap ((Go.bits .or .u64 (jP) (mZ)) - (IntKind.u64.wrap ((IntKind.u64.wrap (Int.tdiv (Go.bits .or .u64 (jP) (mZ)) ((dK) / 4294967296))) * ((dK) / 4294967296))))))) = some (r1, r2) := by first | (rw [qx] at H; exact H) | (simp only [qx] at H ⊢; exact H)
           (try rw [qx] at A7)
           have Zq : (IntKind.u64.wrap (a1 * 2 ^ min (jm).toNat 64)) = jC := qx
           have agZ : (jm) ≤ 64 → (IntKind.u64.wrap (a1 * 2 ^ (jm).toNat)) = jC := zG qx
           by_cases c18 : ((dK) / 4294967296) = 0
           · rw [if_pos c18] at H
             exact absurd H (by simp)
           · rw [if_neg c18] at H
             have Ew : (((dK) / 4294967296) == 0) = false := beq_eq_false_iff_ne.mpr c18
             have KN : (((dK) / 4294967296) != 0) = true := bne_iff_ne.mpr c18
             have aaL := aj.mk H
             clear H
             go_enter Try.func112, Try.ntmps112
             go_upto_block 0 with (first | (go_at_call 121; (with_reducible refine (bits_LeadingZeros64.calls a2 t120 _ A7.out).mono ?_); rintro e w' ⟨rfl, ⟨nd, rfl⟩⟩; (try first | exact ⟨rfl, _, World.drewN_drewN _ _ _⟩ | exact ⟨rfl, _, Eq.trans (World.drewN_drewN _ _ _) (congrArg (World.drewN _) (Nat.add_assoc _ _ _))⟩)))
             repeat (go_quiet (first | (go_at_call 121; (with_reducible refine (bits_LeadingZeros64.calls a2 t120 _ A7.out).mono ?_); rintro e w' ⟨rfl, ⟨nd, rfl⟩⟩; (try first | exact ⟨rfl, _, World.drewN_drewN _ _ _⟩ | exact ⟨rfl, _, Eq.trans (World.drewN_drewN _ _ _) (congrArg (World.drewN _) (Nat.add_assoc _ _ _))⟩))); go_upto_block 0 with (first | (go_at_call 121; (with_reducible refine (bits_LeadingZeros64.calls a2 t120 _ A7.out).mono ?_); rintro e w' ⟨rfl, ⟨nd, rfl⟩⟩; (try first | exact ⟨rfl, _, World.drewN_drewN _ _ _⟩ | exact ⟨rfl, _, Eq.trans (World.drewN_drewN _ _ _) (congrArg (World.drewN _) (Nat.add_assoc _ _ _))⟩))))
             (try simp only [Act.put, List.setIfInBounds_toArray, List.set_cons_zero, List.set_cons_succ])
             go_cut [15] (fun v15 wc => ∃ (kq : Nat) (jo : Int), v15 = .int .u64 jo ∧ aj (aQ.j2 kq dK jm ((dK) / 4294967296) (Go.bits .and .u64 (dK) 4294967295) (Go.bits .or .u64 (jP) (mZ)) ((jC) / 4294967296) (Go.bits .and .u64 (jC) 4294967295) jo = some (r1, r2)) ∧ aj (kq ≤ k) ∧ bV w wc)
             case first =>
              have H := aaL.out
              clear aaL
              have H' := aj.mk H
              clear H
              go_wp2
              repeat (go_quiet (fail); try go_wp2)
              go_loopg [15, 16] k (fun kq v15 v16 w' => ∃ (jq : Int) (yz : Int), v15 = .int .u64 jq ∧ v16 = .int .u64 yz ∧ aj (aQ.l0 kq dK jm ((dK) / 4294967296) (Go.bits .and .u64 (dK) 4294967295) (Go.bits .or .u64 (jP) (mZ)) ((jC) / 4294967296) (Go.bits .and .u64 (jC) 4294967295) jq yz = some (r1, r2)) ∧ aj (kq ≤ k) ∧ bV w w')
              case atStart => exact ⟨(IntKind.u64.wrap (Int.tdiv (Go.bits .or .u64 (jP) (mZ)) ((dK) / 4294967296))), (IntKind.u64.wrap ((Go.bits .or .u64 (jP) (mZ)) - (IntKind.u64.wrap ((IntKind.u64.wrap (Int.tdiv (Go.bits .or .u64 (jP) (mZ)) ((dK) / 4294967296))) * ((dK) / 4294967296))))), (by first | rfl | (simp; done) | (simp only [← qy, ← vF, ← vC] <;> (first | rfl | simp)) | (simp [*]; done)), (by first | rfl | (simp; done) | (simp only [← qy, ← vF, ← vC] <;> (first | rfl | simp)) | (simp [*]; done)), H', ⟨Nat.le_refl _⟩, by repeat (first | exact bV.refl _ | apply bV.step)⟩
              case round =>
               clear H'
               try clear c1
               try clear p2
               try clear c4
               try clear vT
               try clear Oh
               try clear c5
               try clear BM
               try clear c6
               try clear qC
               try clear FB
               try clear c9
               try clear KL
               try clear Oe
               try clear c11
               try clear Ey
               try clear c14
               try clear oP
               try clear uF
               try clear c16
               try clear Gs
               try clear c18
               try clear Ew
               try clear KN
               obtain ⟨jq, yz, rfl, rfl, HA, zy, ⟨m1, rfl⟩⟩ := hrel
               cases gk with
               | zero => exact absurd HA.out (by simp [aQ.l0])
               | succ k1 =>
                 have H := HA.out
                 clear HA
                 simp only [aQ.l0] at H
                 have aaK := aj.mk H
                 clear H
                 go_upto_region 17 with (fail)
                 repeat (go_quiet (fail); go_upto_region 17 with (fail))
                 go_cut [78] (fun v78 wc => ∃ (kq : Nat) (GV : Bool), v78 = .bool GV ∧ aj (aQ.j1 kq dK jm ((dK) / 4294967296) (Go.bits .and .u64 (dK) 4294967295) (Go.bits .or .u64 (jP) (mZ)) ((jC) / 4294967296) (Go.bits .and .u64 (jC) 4294967295) jq yz GV = some (r1, r2)) ∧ aj (kq ≤ k1) ∧ bV w wc)
                 case first =>
                  have H := aaK.out
                  clear aaK
                  by_cases c21 : jq ≥ 4294967296
                  · rw [if_pos c21] at H
                    have sQ : decide (4294967296 ≤ jq) = true := decide_eq_true c21
                    clear c21
                    (first | rw [sQ] | (simp only [dA, dB]; rw [sQ]) | skip)
                    have H' := aj.mk H
                    clear H
                    go_wp2
                    repeat (go_quiet (fail); try go_wp2)
                    go_meet
                    case rel => exact ⟨_, (true), (by first | rfl | (simp; done) | (simp [*]; done)), H', ⟨by have := zy.out; first | omega | exact Nat.le_refl _⟩, by repeat (first | exact bV.refl _ | apply bV.step)⟩
                  · rw [if_neg c21] at H
                    have sQ : decide (4294967296 ≤ jq) = false := decide_eq_false c21
                    clear c21
                    (first | rw [sQ] | (simp only [dA, dB]; rw [sQ]) | skip)
                    have H' := aj.mk H
                    clear H
                    go_wp2
                    repeat (go_quiet (fail); try go_wp2)
                    go_meet
                    case rel => exact ⟨_, (decide ((IntKind.u64.wrap (jq * (Go.bits .and .u64 (dK) 4294967295))) > (IntKind.u64.wrap ((IntKind.u64.wrap (4294967296 * yz)) + ((jC) / 4294967296))))), (by first | rfl | (simp; done) | (simp only [← qy, ← qx] <;> (first | rfl | simp)) | (simp [*]; done)), H', ⟨by have := zy.out; first | omega | exact Nat.le_refl _⟩, by repeat (first | exact bV.refl _ | apply bV.step)⟩
                 case rest =>
                  clear aaK
                  try clear c1
                  try clear c2
                  try clear p2
                  try clear c4
                  try clear vT
                  try clear Oh
                  try clear c5
                  try clear BM
                  try clear c6
                  try clear qC
                  try clear FB
                  try clear c9
                  try clear KL
                  try clear Oe
                  try clear c11
                  try clear Ey
                  try clear c14
                  try clear oP
                  try clear uF
                  try clear c16
                  try clear Gs
                  try clear c18
                  try clear Ew
                  try clear KN
                  try clear c21
                  try clear sQ
                  try clear p2
                  obtain ⟨kq, GV, rfl, HA, X7, ⟨alf, rfl⟩⟩ := hcut
                  cases kq with
                  | zero => exact absurd HA.out (by simp [aQ.j1])
                  | succ abA =>
                    have H := HA.out
                    clear HA
                    simp only [aQ.j1] at H
                    by_cases EZ : GV = true
                    · subst EZ
                      rw [if_pos rfl] at H
                      by_cases c23 : (IntKind.u64.wrap (yz + ((dK) / 4294967296))) ≥ 4294967296
                      · rw [if_pos c23] at H
                        have Eu : decide (4294967296 ≤ (IntKind.u64.wrap (yz + ((dK) / 4294967296)))) = true := decide_eq_true c23
                        clear c23
                        have H' := aj.mk H
                        clear H
                        go_wp2
                        repeat (go_quiet (fail); try go_wp2)
                        go_meet
                        case rel => exact ⟨_, (IntKind.u64.wrap (jq - 1)), (by first | rfl | (simp; done) | (simp [*]; done)), H', ⟨by have := zy.out; have := X7.out; first | omega | exact Nat.le_refl _⟩, by repeat (first | exact bV.refl _ | apply bV.step)⟩
                      · rw [if_neg c23] at H
                        have Eu : decide (4294967296 ≤ (IntKind.u64.wrap (yz + ((dK) / 4294967296)))) = false := decide_eq_false c23
                        clear c23
                        have H' := aj.mk H
                        clear H
                        go_wp2
                        repeat (go_quiet (fail); try go_wp2)
                        go_roundg abA
                        case measure => have := zy.out; have := X7.out; omega
                        case rel => exact ⟨(IntKind.u64.wrap (jq - 1)), (IntKind.u64.wrap (yz + ((dK) / 4294967296))), (by first | rfl | (simp; done) | (simp [*]; done)), (by first | rfl | (simp; done) | (simp only [← qy] <;> (first | rfl | simp)) | (simp [*]; done)), H', ⟨by have := zy.out; have := X7.out; omega⟩, by repeat (first | exact bV.refl _ | apply bV.step)⟩
                    · replace EZ := Bool.eq_false_iff.mpr EZ
                      subst EZ
                      have H1 : (aQ.j2 abA dK jm ((dK) / 4294967296) (Go.bits .and .u64 (dK) 4294967295) (Go.bits .or .u64 (jP) (mZ)) ((jC) / 4294967296) (Go.bits .and .u64 (jC) 4294967295) jq) = some (r1, r2) := by rw [if_neg (show ¬ (false = true) by decide)] at H; exact H
                      clear H
                      have H := H1
                      clear H1
                      have H' := aj.mk H
                      clear H
                      go_wp2
                      repeat (go_quiet (fail); try go_wp2)
                      go_meet
                      case rel => exact ⟨_, (jq), (by first | rfl | (simp; done) | (simp [*]; done)), H', ⟨by have := zy.out; have := X7.out; first | omega | exact Nat.le_refl _⟩, by repeat (first | exact bV.refl _ | apply bV.step)⟩
             case rest =>
              clear aaL
              try clear c1
              try clear c2
              try clear p2
              try clear c4
              try clear vT
              try clear Oh
              try clear c5
              try clear BM
              try clear c6
              try clear qC
              try clear FB
              try clear c9
              try clear KL
              try clear Oe
              try clear c11
              try clear Ey
              try clear c14
              try clear oP
              try clear uF
              try clear c16
              try clear Gs
              try clear c18
              try clear Ew
              try clear KN
              try clear c19
              try clear c21
              try clear sQ
              try clear EZ
              try clear c23
              try clear Eu
              try clear p2
              obtain ⟨kq, jo, rfl, HA, X8, ⟨alg, rfl⟩⟩ := hcut
              cases kq with
              | zero => exact absurd HA.out (by simp [aQ.j2])
              | succ abB =>
                have H := HA.out
                clear HA
                simp only [aQ.j2] at H
                by_cases c24 : ((dK) / 4294967296) = 0
                · rw [if_pos c24] at H
                  exact absurd H (by simp)
                · rw [if_neg c24] at H
                  have PX : (((dK) / 4294967296) == 0) = false := beq_eq_false_iff_ne.mpr c24
                  have PW : (((dK) / 4294967296) != 0) = true := bne_iff_ne.mpr c24
                  have H' := aj.mk H
                  clear H
                  go_wp2
                  repeat (go_quiet (fail); try go_wp2)
                  go_loopg [16, 18] abB (fun kq v16 v18 w' => ∃ (yx : Int) (mV : Int), v16 = .int .u64 yx ∧ v18 = .int .u64 mV ∧ aj (aQ.l1 kq dK jm ((dK) / 4294967296) (Go.bits .and .u64 (dK) 4294967295) (Go.bits .and .u64 (jC) 4294967295) jo yx (IntKind.u64.wrap ((IntKind.u64.wrap ((IntKind.u64.wrap ((Go.bits .or .u64 (jP) (mZ)) * 4294967296)) + ((jC) / 4294967296))) - (IntKind.u64.wrap (jo * dK)))) mV = some (r1, r2)) ∧ aj (kq ≤ abB) ∧ bV w w')
                  case atStart => exact ⟨(IntKind.u64.wrap ((IntKind.u64.wrap ((IntKind.u64.wrap ((IntKind.u64.wrap ((Go.bits .or .u64 (jP) (mZ)) * 4294967296)) + ((jC) / 4294967296))) - (IntKind.u64.wrap (jo * dK)))) - (IntKind.u64.wrap ((IntKind.u64.wrap (Int.tdiv (IntKind.u64.wrap ((IntKind.u64.wrap ((IntKind.u64.wrap ((Go.bits .or .u64 (jP) (mZ)) * 4294967296)) + ((jC) / 4294967296))) - (IntKind.u64.wrap (jo * dK)))) ((dK) / 4294967296))) * ((dK) / 4294967296))))), (IntKind.u64.wrap (Int.tdiv (IntKind.u64.wrap ((IntKind.u64.wrap ((IntKind.u64.wrap ((Go.bits .or .u64 (jP) (mZ)) * 4294967296)) + ((jC) / 4294967296))) - (IntKind.u64.wrap (jo * dK)))) ((dK) / 4294967296))), (by first | rfl | (simp; done) | (simp only [← qy, ← vF, ← vC, ← qx] <;> (first | rfl | simp)) | (simp [*]; done)), (by first | rfl | (simp; done) | (simp only [← qy, ← vF, ← vC, ← qx] <;> (first | rfl | simp)) | (simp [*]; done)), H', ⟨Nat.le_refl _⟩, by repeat (first | exact bV.refl _ | apply bV.step)⟩
                  case round =>
                   clear H'
                   try clear c1
                   try clear c2
                   try clear p2
                   try clear c4
                   try clear vT
                   try clear Oh
                   try clear c5
                   try clear BM
                   try clear c6
                   try clear qC
                   try clear FB
                   try clear c9
                   try clear KL
                   try clear Oe
                   try clear c11
                   try clear Ey
                   try clear c14
                   try clear oP
                   try clear uF
                   try clear c16
                   try clear Gs
                   try clear c18
                   try clear Ew
                   try clear KN
                   try clear c19
                   try clear c21
                   try clear sQ
                   try clear EZ
                   try clear c23
                   try clear Eu
                   try clear c24
                   try clear PX
                   try clear PW
                   try clear p2
                   obtain ⟨yx, mV, rfl, rfl, HA, Jo, ⟨m2, rfl⟩⟩ := hrel
                   cases gk with
                   | zero => exact absurd HA.out (by simp [aQ.l1])
                   | succ k2 =>
                     have H := HA.out
                     clear HA
                     simp only [aQ.l1] at H
                     have aaJ := aj.mk H
                     clear H
                     go_upto_region 24 with (fail)
                     repeat (go_quiet (fail); go_upto_region 24 with (fail))
                     go_cut [113] (fun age wc => ∃ (kq : Nat) (BU : Bool), age = .bool BU ∧ aj (aQ.j4 kq dK jm ((dK) / 4294967296) (Go.bits .and .u64 (dK) 4294967295) (Go.bits .and .u64 (jC) 4294967295) jo yx (IntKind.u64.wrap ((IntKind.u64.wrap ((IntKind.u64.wrap ((Go.bits .or .u64 (jP) (mZ)) * 4294967296)) + ((jC) / 4294967296))) - (IntKind.u64.wrap (jo * dK)))) mV BU = some (r1, r2)) ∧ aj (kq ≤ k2) ∧ bV w wc)
                     case first =>
                      have H := aaJ.out
                      clear aaJ
                      by_cases FC : mV ≥ 4294967296
                      · rw [if_pos FC] at H
                        have Be : decide (4294967296 ≤ mV) = true := decide_eq_true FC
                        clear FC
                        (first | rw [Be] | (simp only [dA, dB]; rw [Be]) | skip)
                        have H' := aj.mk H
                        clear H
                        go_wp2
                        repeat (go_quiet (fail); try go_wp2)
                        go_meet
                        case rel => exact ⟨_, (true), (by first | rfl | (simp; done) | (simp [*]; done)), H', ⟨by have := X8.out; have := Jo.out; first | omega | exact Nat.le_refl _⟩, by repeat (first | exact bV.refl _ | apply bV.step)⟩
                      · rw [if_neg FC] at H
                        have Be : decide (4294967296 ≤ mV) = false := decide_eq_false FC
                        clear FC
                        (first | rw [Be] | (simp only [dA, dB]; rw [Be]) | skip)
                        have H' := aj.mk H
                        clear H
                        go_wp2
                        repeat (go_quiet (fail); try go_wp2)
                        go_meet
                        case rel => exact ⟨_, (decide ((IntKind.u64.wrap (mV * (Go.bits .and .u64 (dK) 4294967295))) > (IntKind.u64.wrap ((IntKind.u64.wrap (4294967296 * yx)) + (Go.bits .and .u64 (jC) 4294967295))))), (by first | rfl | (simp; done) | (simp only [← qy, ← qx] <;> (first | rfl | simp)) | (simp [*]; done)), H', ⟨by have := X8.out; have := Jo.out; first | omega | exact Nat.le_refl _⟩, by repeat (first | exact bV.refl _ | apply bV.step)⟩
                     case rest =>
                      clear aaJ
                      try clear c1
                      try clear c2
                      try clear p2
                      try clear c4
                      try clear vT
                      try clear Oh
                      try clear c5
                      try clear BM
                      try clear c6
                      try clear qC
                      try clear FB
                      try clear c9
                      try clear KL
                      try clear Oe
                      try clear c11
                      try clear Ey
                      try clear c14
                      try clear oP
                      try clear uF
                      try clear c16
                      try clear Gs
                      try clear c18
                      try clear Ew
                      try clear KN
                      try clear c19
                      try clear c21
                      try clear sQ
                      try clear EZ
                      try clear c23
                      try clear Eu
                      try clear c24
                      try clear PX
                      try clear PW
                      try clear FC
                      try clear Be
                      try clear p2
                      obtain ⟨kq, BU, rfl, HA, adA, ⟨ale, rfl⟩⟩ := hcut
                      cases kq with
                      | zero => exact absurd HA.out (by simp [aQ.j4])
                      | succ agv =>
                        have H := HA.out
                        clear HA
                        simp only [aQ.j4] at H
                        by_cases Lm : BU = true
                        · subst Lm
                          rw [if_pos rfl] at H
                          by_cases c28 : (IntKind.u64.wrap (yx + ((dK) / 4294967296))) ≥ 4294967296
                          · rw [if_pos c28] at H
                            have YA : decide (4294967296 ≤ (IntKind.u64.wrap (yx + ((dK) / 4294967296)))) = true := decide_eq_true c28
                            clear c28
                            by_cases c29 : 0 ≤ jm
                            · rw [if_pos c29] at H
                              have acj := eq_true c29
                              have ajI : decide (0 ≤ jm) = true := decide_eq_true c29
                              clear c29
                              obtain ⟨qo, xM⟩ : ∃ j_ : Int, (shr .u64 (IntKind.u64.wrap ((IntKind.u64.wrap ((IntKind.u64.wrap ((IntKind.u64.wrap ((IntKind.u64.wrap ((IntKind.u64.wrap ((Go.bits .or .u64 (jP) (mZ)) * 4294967296)) + ((jC) / 4294967296))) - (IntKind.u64.wrap (jo * dK)))) * 4294967296)) + (Go.bits .and .u64 (jC) 4294967295))) - (IntKind.u64.wrap ((IntKind.u64.wrap (mV - 1)) * dK)))) jm) = j_ := ⟨_, rfl⟩
                              replace H : (some (IntKind.u64.wrap ((IntKind.u64.wrap (jo * 4294967296)) + (IntKind.u64.wrap (mV - 1))), qo)) = some (r1, r2) := by first | (rw [xM] at H; exact H) | (simp only [xM] at H ⊢; exact H)
                              have agW : ((IntKind.u64.wrap ((IntKind.u64.wrap ((IntKind.u64.wrap ((IntKind.u64.wrap ((IntKind.u64.wrap ((IntKind.u64.wrap ((Go.bits .or .u64 (jP) (mZ)) * 4294967296)) + ((jC) / 4294967296))) - (IntKind.u64.wrap (jo * dK)))) * 4294967296)) + (Go.bits .and .u64 (jC) 4294967295))) - (IntKind.u64.wrap ((IntKind.u64.wrap (mV - 1)) * dK)))) / 2 ^ min jm.toNat 64) = qo := xM
                              have agU : jm ≤ 64 → ((IntKind.u64.wrap ((IntKind.u64.wrap ((IntKind.u64.wrap ((IntKind.u64.wrap ((IntKind.u64.wrap ((IntKind.u64.wrap ((Go.bits .or .u64 (jP) (mZ)) * 4294967296)) + ((jC) / 4294967296))) - (IntKind.u64.wrap (jo * dK)))) * 4294967296)) + (Go.bits .and .u64 (jC) 4294967295))) - (IntKind.u64.wrap ((IntKind.u64.wrap (mV - 1)) * dK)))) / 2 ^ jm.toNat) = qo := zF xM
                              simp only [Option.some.injEq, Prod.mk.injEq] at H
                              obtain ⟨rfl, rfl⟩ := H
                              go_wp2
                              repeat (go_quiet (fail); try go_wp2)
                              go_ret2
                              exact ⟨by first | rfl | (simp; done) | (simp only [← Um, ← qy, ← vF, ← J_, ← vC, ← qx, ← xM] <;> (first | rfl | simp)) | (simp [*]; done), by repeat (first | exact bV.refl _ | apply bV.step)⟩
                            · rw [if_neg c29] at H
                              exact absurd H (by simp)
                          · rw [if_neg c28] at H
                            have YA : decide (4294967296 ≤ (IntKind.u64.wrap (yx + ((dK) / 4294967296)))) = false := decide_eq_false c28
                            clear c28
                            have H' := aj.mk H
                            clear H
                            go_wp2
                            repeat (go_quiet (fail); try go_wp2)
                            go_roundg agv
                            case measure => have := X8.out; have := Jo.out; have := adA.out; omega
                            case rel => exact ⟨(IntKind.u64.wrap (yx + ((dK) / 4294967296))), (IntKind.u64.wrap (mV - 1)), (by first | rfl | (simp; done) | (simp only [← qy] <;> (first | rfl | simp)) | (simp [*]; done)), (by first | rfl | (simp; done) | (simp [*]; done)), H', ⟨by have := X8.out; have := Jo.out; have := adA.out; omega⟩, by repeat (first | exact bV.refl _ | apply bV.step)⟩
                        · replace Lm := Bool.eq_false_iff.mpr Lm
                          subst Lm
                          have H1 : (if 0 ≤ jm then (some (IntKind.u64.wrap ((IntKind.u64.wrap (jo * 4294967296)) + mV), shr .u64 (IntKind.u64.wrap ((IntKind.u64.wrap ((IntKind.u64.wrap ((IntKind.u64.wrap ((IntKind.u64.wrap ((IntKind.u64.wrap ((Go.bits .or .u64 (jP) (mZ)) * 4294967296)) + ((jC) / 4294967296))) - (IntKind.u64.wrap (jo * dK)))) * 4294967296)) + (Go.bits .and .u64 (jC) 4294967295))) - (IntKind.u64.wrap (mV * dK)))) jm)) else (none)) = some (r1, r2) := by rw [if_neg (show ¬ (false = true) by decide)] at H; exact H
                          clear H
                          have H := H1
                          clear H1
                          by_cases c31 : 0 ≤ jm
                          · rw [if_pos c31] at H
                            have aci := eq_true c31
                            have ajH : decide (0 ≤ jm) = true := decide_eq_true c31
                            clear c31
                            obtain ⟨Zf, J8⟩ : ∃ j_ : Int, (shr .u64 (IntKind.u64.wrap ((IntKind.u64.wrap ((IntKind.u64.wrap ((IntKind.u64.wrap ((IntKind.u64.wrap ((IntKind.u64.wrap ((Go.bits .or .u64 (jP) (mZ)) * 4294967296)) + ((jC) / 4294967296))) - (IntKind.u64.wrap (jo * dK)))) * 4294967296)) + (Go.bits .and .u64 (jC) 4294967295))) - (IntKind.u64.wrap (mV * dK)))) jm) = j_ := ⟨_, rfl⟩
                            replace H : (some (IntKind.u64.wrap ((IntKind.u64.wrap (jo * 4294967296)) + mV), Zf)) = some (r1, r2) := by first | (rw [J8] at H; exact H) | (simp only [J8] at H ⊢; exact H)
                            have agT : ((IntKind.u64.wrap ((IntKind.u64.wrap ((IntKind.u64.wrap ((IntKind.u64.wrap ((IntKind.u64.wrap ((IntKind.u64.wrap ((Go.bits .or .u64 (jP) (mZ)) * 4294967296)) + ((jC) / 4294967296))) - (IntKind.u64.wrap (jo * dK)))) * 4294967296)) + (Go.bits .and .u64 (jC) 4294967295))) - (IntKind.u64.wrap (mV * dK)))) / 2 ^ min jm.toNat 64) = Zf := J8
                            have agS : jm ≤ 64 → ((IntKind.u64.wrap ((IntKind.u64.wrap ((IntKind.u64.wrap ((IntKind.u64.wrap ((IntKind.u64.wrap ((IntKind.u64.wrap ((Go.bits .or .u64 (jP) (mZ)) * 4294967296)) + ((jC) / 4294967296))) - (IntKind.u64.wrap (jo * dK)))) * 4294967296)) + (Go.bits .and .u64 (jC) 4294967295))) - (IntKind.u64.wrap (mV * dK)))) / 2 ^ jm.toNat) = Zf := zF J8
                            simp only [Option.some.injEq, Prod.mk.injEq] at H
                            obtain ⟨rfl, rfl⟩ := H
                            go_wp2
                            repeat (go_quiet (fail); try go_wp2)
                            go_ret2
                            exact ⟨by first | rfl | (simp; done) | (simp only [← Um, ← qy, ← vF, ← J_, ← vC, ← qx, ← J8] <;> (first | rfl | simp)) | (simp [*]; done), by repeat (first | exact bV.refl _ | apply bV.step)⟩
                          · rw [if_neg c31] at H
                            exact absurd H (by simp)
         · rw [if_neg c14] at H
           exact absurd H (by simp)
       · rw [if_neg c9] at H
         exact absurd H (by simp)
def mX.f (k : Nat) (a0 : Int) (a1 : Int) : Option (Int × Bool) := (bY.f a0 a1).bind fun fV => (if fV.2.1 = 0 then (if fV.1 > 0 then (some (70368744177663, true)) else (if fV.1 < 0 then (some ((-70368744177664), true)) else (some (0, true)))) else ((bn.f fV.1).bind fun t124 => ((bn.f fV.2.1).bind fun t125 => (if (t124 / 1099511627776) ≥ t125 then ((aS.f 1 0 ((decide (fV.1 < 0)) != (decide (fV.2.1 < 0)))).bind fun y9 => (some (y9.1, true))) else ((aQ.f k (t124 / 1099511627776) (IntKind.u64.wrap (t124 * 16777216)) t125).bind fun eY => (if eY.2 > (IntKind.u64.wrap (t125 - eY.2)) then ((aS.f 0 (IntKind.u64.wrap (eY.1 + 1)) ((decide (fV.1 < 0)) != (decide (fV.2.1 < 0)))).bind fun kJ => (if fV.2.2 = true then (some (kJ.1, true)) else (some (kJ.1, kJ.2)))) else (if eY.2 = (IntKind.u64.wrap (t125 - eY.2)) then (if (Go.bits .and .u64 eY.1 1) = 1 then ((aS.f 0 (IntKind.u64.wrap (eY.1 + 1)) ((decide (fV.1 < 0)) != (decide (fV.2.1 < 0)))).bind fun kH => (if fV.2.2 = true then (some (kH.1, true)) else (some (kH.1, kH.2)))) else ((aS.f 0 eY.1 ((decide (fV.1 < 0)) != (decide (fV.2.1 < 0)))).bind fun kG => (if fV.2.2 = true then (some (kG.1, true)) else (some (kG.1, kG.2))))) else ((aS.f 0 eY.1 ((decide (fV.1 < 0)) != (decide (fV.2.1 < 0)))).bind fun kF => (if fV.2.2 = true then (some (kF.1, true)) else (some (kF.1, kF.2)))))))))))
theorem mX.calls (k : Nat) (a0 : Int) (a1 : Int) (r1 : Int) (r2 : Bool) (w : World) (h : mX.f k a0 a1 = some (r1, r2)) :
 Calls Try.prog 93 #[.int .i64 a0, .int .i64 a1] w fun e w' => e = .returned (.tuple #[.int .i64 r1, .bool r2]) ∧ Below w.heap.size w w' := by
 have HB := aj.mk (Below.refl w.heap.size w)
 have H : ((bY.f a0 a1).bind fun fV => (if fV.2.1 = 0 then (if fV.1 > 0 then (some (70368744177663, true)) else (if fV.1 < 0 then (some ((-70368744177664), true)) else (some (0, true)))) else ((bn.f fV.1).bind fun t124 => ((bn.f fV.2.1).bind fun t125 => (if (t124 / 1099511627776) ≥ t125 then ((aS.f 1 0 ((decide (fV.1 < 0)) != (decide (fV.2.1 < 0)))).bind fun y9 => (some (y9.1, true))) else ((aQ.f k (t124 / 1099511627776) (IntKind.u64.wrap (t124 * 16777216)) t125).bind fun eY => (if eY.2 > (IntKind.u64.wrap (t125 - eY.2)) then ((aS.f 0 (IntKind.u64.wrap (eY.1 + 1)) ((decide (fV.1 < 0)) != (decide (fV.2.1 < 0)))).bind fun kJ => (if fV.2.2 = true then (some (kJ.1, true)) else (some (kJ.1, kJ.2)))) else (if eY.2 = (IntKind.u64.wrap (t125 - eY.2)) then (if (Go.bits .and .u64 eY.1 1) = 1 then ((aS.f 0 (IntKind.u64.wrap (eY.1 + 1)) ((decide (fV.1 < 0)) != (decide (fV.2.1 < 0)))).bind fun kH => (if fV.2.2 = true then (some (kH.1, true)) else (some (kH.1, kH.2)))) else ((aS.f 0 eY.1 ((decide (fV.1 < 0)) != (decide (fV.2.1 < 0)))).bind fun kG => (if fV.2.2 = true then (some (kG.1, true)) else (some (kG.1, kG.2))))) else ((aS.f 0 eY.1 ((decide (fV.1 < 0)) != (decide (fV.2.1 < 0)))).bind fun kF => (if fV.2.2 = true then (some (kF.1, true)) else (some (kF.1, kF.2)))))))))))) = some (r1, r2) := h
 clear h
 replace H := Option.bind_eq_some_iff.mp H
 obtain ⟨⟨t121, t122, t123⟩, BD, H⟩ := H
 replace H : (if t122 = 0 then (if t121 > 0 then (some (70368744177663, true)) else (if t121 < 0 then (some ((-70368744177664), true)) else (some (0, true)))) else ((bn.f t121).bind fun t124 => ((bn.f t122).bind fun t125 => (if (t124 / 1099511627776) ≥ t125 then ((aS.f 1 0 ((decide (t121 < 0)) != (decide (t122 < 0)))).bind fun y9 => (some (y9.1, true))) else ((aQ.f k (t124 / 1099511627776) (IntKind.u64.wrap (t124 * 16777216)) t125).bind fun eY => (if eY.2 > (IntKind.u64.wrap (t125 - eY.2)) then ((aS.f 0 (IntKind.u64.wrap (eY.1 + 1)) ((decide (t121 < 0)) != (decide (t122 < 0)))).bind fun kJ => (if t123 = true then (some (kJ.1, true)) else (some (kJ.1, kJ.2)))) else (if eY.2 = (IntKind.u64.wrap (t125 - eY.2)) then (if (Go.bits .and .u64 eY.1 1) = 1 then ((aS.f 0 (IntKind.u64.wrap (eY.1 + 1)) ((decide (t121 < 0)) != (decide (t122 < 0)))).bind fun kH => (if t123 = true then (some (kH.1, true)) else (some (kH.1, kH.2)))) else ((aS.f 0 eY.1 ((decide (t121 < 0)) != (decide (t122 < 0)))).bind fun kG => (if t123 = true then (some (kG.1, true)) else (some (kG.1, kG.2))))) else ((aS.f 0 eY.1 ((decide (t121 < 0)) != (decide (t122 < 0)))).bind fun kF => (if t123 = true then (some (kF.1, true)) else (some (kF.1, kF.2))))))))))) = some (r1, r2) := H
 have A3 := aj.mk BD
 clear BD
 by_cases c4 : t122 = 0
 · rw [if_pos c4] at H
   have vT : (t122 == 0) = true := beq_iff_eq.mpr c4
   have Oh : (t122 != 0) = false := bne_eq_false_iff_eq.mpr c4
   clear c4
   by_cases c5 : t121 > 0
   · rw [if_pos c5] at H
     have BM : decide (0 < t121) = true := decide_eq_true c5
     clear c5
     simp only [Option.some.injEq, Prod.mk.injEq] at H
     obtain ⟨rfl, rfl⟩ := H
     go_enter Try.func93, Try.ntmps93
     go_wp2_with (first | ((with_reducible refine aH (f := 95) rfl ?_); refine bg (some 21) rfl rfl Try.func95 (by kernel_rfl) rfl #[.int .i64 a0, .int .i64 a1] rfl (by (try simp only [List.map_toArray, List.map_cons, List.map_nil]); first | done | rfl | (simp only [List.length_drop, List.length_take]; rfl)) ?_; (with_reducible refine (bY.calls a0 a1 t121 t122 t123 _ A3.out).mono ?_); rintro e w6 ⟨rfl, hb⟩; refine ⟨_, rfl, ?_⟩; have bF := aj.mk (aP (by repeat (first | (with_reducible first | exact HB.out | apply ak | apply ah | apply au) | exact HB.out)) hb); clear HB; have HB := bF; clear bF; (try clear hb); (try clear hb2); (try clear hk); (try clear hi)))
     go_ret2
     exact ⟨by first | rfl | (simp [aN, aK] <;> rfl) | (simp [*, aN, aK] <;> rfl), by repeat (first | (with_reducible first | exact HB.out | apply ak | apply ah | apply au) | exact HB.out)⟩
   · rw [if_neg c5] at H
     have BM : decide (0 < t121) = false := decide_eq_false c5
     clear c5
     by_cases c7 : t121 < 0
     · rw [if_pos c7] at H
       have vS : decide (t121 < 0) = true := decide_eq_true c7
       clear c7
       simp only [Option.some.injEq, Prod.mk.injEq] at H
       obtain ⟨rfl, rfl⟩ := H
       go_enter Try.func93, Try.ntmps93
       go_wp2_with (first | ((with_reducible refine aH (f := 95) rfl ?_); refine bg (some 21) rfl rfl Try.func95 (by kernel_rfl) rfl #[.int .i64 a0, .int .i64 a1] rfl (by (try simp only [List.map_toArray, List.map_cons, List.map_nil]); first | done | rfl | (simp only [List.length_drop, List.length_take]; rfl)) ?_; (with_reducible refine (bY.calls a0 a1 t121 t122 t123 _ A3.out).mono ?_); rintro e w8 ⟨rfl, hb⟩; refine ⟨_, rfl, ?_⟩; have bF := aj.mk (aP (by repeat (first | (with_reducible first | exact HB.out | apply ak | apply ah | apply au) | exact HB.out)) hb); clear HB; have HB := bF; clear bF; (try clear hb); (try clear hb2); (try clear hk); (try clear hi)))
       go_ret2
       exact ⟨by first | rfl | (simp [aN, aK] <;> rfl) | (simp [*, aN, aK] <;> rfl), by repeat (first | (with_reducible first | exact HB.out | apply ak | apply ah | apply au) | exact HB.out)⟩
     · rw [if_neg c7] at H
       have vS : decide (t121 < 0) = false := decide_eq_false c7
       clear c7
       simp only [Option.some.injEq, Prod.mk.injEq] at H
       obtain ⟨rfl, rfl⟩ := H
       go_enter Try.func93, Try.ntmps93
       go_wp2_with (first | ((with_reducible refine aH (f := 95) rfl ?_); refine bg (some 21) rfl rfl Try.func95 (by kernel_rfl) rfl #[.int .i64 a0, .int .i64 a1] rfl (by (try simp only [List.map_toArray, List.map_cons, List.map_nil]); first | done | rfl | (simp only [List.length_drop, List.length_take]; rfl)) ?_; (with_reducible refine (bY.calls a0 a1 t121 t122 t123 _ A3.out).mono ?_); rintro e w9 ⟨rfl, hb⟩; refine ⟨_, rfl, ?_⟩; have bF := aj.mk (aP (by repeat (first | (with_reducible first | exact HB.out | apply ak | apply ah | apply au) | exact HB.out)) hb); clear HB; have HB := bF; clear bF; (try clear hb); (try clear hb2); (try clear hk); (try clear hi)))
       go_ret2
       exact ⟨by first | rfl | (simp [aN, aK] <;> rfl) | (simp [*, aN, aK] <;> rfl), by repeat (first | (with_reducible first | exact HB.out | apply ak | apply ah | apply au) | exact HB.out)⟩
 · rw [if_neg c4] at H
   have vT : (t122 == 0) = false := beq_eq_false_iff_ne.mpr c4
   have Oh : (t122 != 0) = true := bne_iff_ne.mpr c4
   replace H := Option.bind_eq_some_iff.mp H
   obtain ⟨t124, ad4, H⟩ := H
   replace H : ((bn.f t122).bind fun t125 => (if (t124 / 1099511627776) ≥ t125 then ((aS.f 1 0 ((decide (t121 < 0)) != (decide (t122 < 0)))).bind fun y9 => (some (y9.1, true))) else ((aQ.f k (t124 / 1099511627776) (IntKind.u64.wrap (t124 * 16777216)) t125).bind fun eY => (if eY.2 > (IntKind.u64.wrap (t125 - eY.2)) then ((aS.f 0 (IntKind.u64.wrap (eY.1 + 1)) ((decide (t121 < 0)) != (decide (t122 < 0)))).bind fun kJ => (if t123 = true then (some (kJ.1, true)) else (some (kJ.1, kJ.2)))) else (if eY.2 = (IntKind.u64.wrap (t125 - eY.2)) then (if (Go.bits .and .u64 eY.1 1) = 1 then ((aS.f 0 (IntKind.u64.wrap (eY.1 + 1)) ((decide (t121 < 0)) != (decide (t122 < 0)))).bind fun kH => (if t123 = true then (some (kH.1, true)) else (some (kH.1, kH.2)))) else ((aS.f 0 eY.1 ((decide (t121 < 0)) != (decide (t122 < 0)))).bind fun kG => (if t123 = true then (some (kG.1, true)) else (some (kG.1, kG.2))))) else ((aS.f 0 eY.1 ((decide (t121 < 0)) != (decide (t122 < 0)))).bind fun kF => (if t123 = true then (some (kF.1, true)) else (some (kF.1, kF.2))))))))) = some (r1, r2) := H
   have Yb := aj.mk ad4
   clear ad4
   replace H := Option.bind_eq_some_iff.mp H
   obtain ⟨t125, ad3, H⟩ := H
   replace H : (if (t124 / 1099511627776) ≥ t125 then ((aS.f 1 0 ((decide (t121 < 0)) != (decide (t122 < 0)))).bind fun y9 => (some (y9.1, true))) else ((aQ.f k (t124 / 1099511627776) (IntKind.u64.wrap (t124 * 16777216)) t125).bind fun eY => (if eY.2 > (IntKind.u64.wrap (t125 - eY.2)) then ((aS.f 0 (IntKind.u64.wrap (eY.1 + 1)) ((decide (t121 < 0)) != (decide (t122 < 0)))).bind fun kJ => (if t123 = true then (some (kJ.1, true)) else (some (kJ.1, kJ.2)))) else (if eY.2 = (IntKind.u64.wrap (t125 - eY.2)) then (if (Go.bits .and .u64 eY.1 1) = 1 then ((aS.f 0 (IntKind.u64.wrap (eY.1 + 1)) ((decide (t121 < 0)) != (decide (t122 < 0)))).bind fun kH => (if t123 = true then (some (kH.1, true)) else (some (kH.1, kH.2)))) else ((aS.f 0 eY.1 ((decide (t121 < 0)) != (decide (t122 < 0)))).bind fun kG => (if t123 = true then (some (kG.1, true)) else (some (kG.1, kG.2))))) else ((aS.f 0 eY.1 ((decide (t121 < 0)) != (decide (t122 < 0)))).bind fun kF => (if t123 = true then (some (kF.1, true)) else (some (kF.1, kF.2)))))))) = some (r1, r2) := H
   have Ya := aj.mk ad3
   clear ad3
   by_cases c12 : (t124 / 1099511627776) ≥ t125
   · rw [if_pos c12] at H
     have acs : decide (t125 ≤ (t124 / 1099511627776)) = true := decide_eq_true c12
     clear c12
     replace H := Option.bind_eq_some_iff.mp H
     obtain ⟨⟨t126, t127⟩, ad2, H⟩ := H
     replace H : (some (t126, true)) = some (r1, r2) := H
     have A13 := aj.mk ad2
     clear ad2
     simp only [Option.some.injEq, Prod.mk.injEq] at H
     obtain ⟨rfl, rfl⟩ := H
     go_enter Try.func93, Try.ntmps93
     go_wp2_with (first | ((with_reducible refine aH (f := 95) rfl ?_); refine bg (some 21) rfl rfl Try.func95 (by kernel_rfl) rfl #[.int .i64 a0, .int .i64 a1] rfl (by (try simp only [List.map_toArray, List.map_cons, List.map_nil]); first | done | rfl | (simp only [List.length_drop, List.length_take]; rfl)) ?_; (with_reducible refine (bY.calls a0 a1 t121 t122 t123 _ A3.out).mono ?_); rintro e w14 ⟨rfl, hb⟩; refine ⟨_, rfl, ?_⟩; have bF := aj.mk (aP (by repeat (first | (with_reducible first | exact HB.out | apply ak | apply ah | apply au) | exact HB.out)) hb); clear HB; have HB := bF; clear bF; (try clear hb); (try clear hb2); (try clear hk); (try clear hi)) | ((with_reducible refine aH (f := 97) rfl ?_); refine bg (some 39) rfl rfl Try.func97 (by kernel_rfl) rfl #[.int .i64 t121] rfl (by (try simp only [List.map_toArray, List.map_cons, List.map_nil]); first | done | rfl | (simp only [List.length_drop, List.length_take]; rfl)) ?_; (with_reducible refine (bn.calls t121 t124 _ Yb.out).mono ?_); rintro e w' ⟨rfl, ⟨nd, rfl⟩⟩; refine ⟨_, rfl, ?_⟩) | ((with_reducible refine aH (f := 97) rfl ?_); refine bg (some 41) rfl rfl Try.func97 (by kernel_rfl) rfl #[.int .i64 t122] rfl (by (try simp only [List.map_toArray, List.map_cons, List.map_nil]); first | done | rfl | (simp only [List.length_drop, List.length_take]; rfl)) ?_; (with_reducible refine (bn.calls t122 t125 _ Ya.out).mono ?_); rintro e w' ⟨rfl, ⟨nd, rfl⟩⟩; refine ⟨_, rfl, ?_⟩) | ((with_reducible refine aH (f := 98) rfl ?_); refine bg (some 51) rfl rfl Try.func98 (by kernel_rfl) rfl #[.int .u64 1, .int .u64 0, .bool ((decide (t121 < 0)) != (decide (t122 < 0)))] rfl (by (try simp only [List.map_toArray, List.map_cons, List.map_nil]); first | done | rfl | (simp only [List.length_drop, List.length_take]; rfl)) ?_; (with_reducible refine (aS.calls 1 0 ((decide (t121 < 0)) != (decide (t122 < 0))) t126 t127 _ A13.out).mono ?_); rintro e w15 ⟨rfl, hb⟩; refine ⟨_, rfl, ?_⟩; have bF := aj.mk (aP (by repeat (first | (with_reducible first | exact HB.out | apply ak | apply ah | apply au) | exact HB.out)) hb); clear HB; have HB := bF; clear bF; (try clear hb); (try clear hb2); (try clear hk); (try clear hi)))
     go_ret2
     exact ⟨by first | rfl | (simp [aN, aK] <;> rfl) | (simp [*, aN, aK] <;> rfl), by repeat (first | (with_reducible first | exact HB.out | apply ak | apply ah | apply au) | exact HB.out)⟩
   · rw [if_neg c12] at H
     have acs : decide (t125 ≤ (t124 / 1099511627776)) = false := decide_eq_false c12
     clear c12
     replace H := Option.bind_eq_some_iff.mp H
     obtain ⟨⟨t128, t129⟩, Lj, H⟩ := H
     replace H : (if t129 > (IntKind.u64.wrap (t125 - t129)) then ((aS.f 0 (IntKind.u64.wrap (t128 + 1)) ((decide (t121 < 0)) != (decide (t122 < 0)))).bind fun kJ => (if t123 = true then (some (kJ.1, true)) else (some (kJ.1, kJ.2)))) else (if t129 = (IntKind.u64.wrap (t125 - t129)) then (if (Go.bits .and .u64 t128 1) = 1 then ((aS.f 0 (IntKind.u64.wrap (t128 + 1)) ((decide (t121 < 0)) != (decide (t122 < 0)))).bind fun kH => (if t123 = true then (some (kH.1, true)) else (some (kH.1, kH.2)))) else ((aS.f 0 t128 ((decide (t121 < 0)) != (decide (t122 < 0)))).bind fun kG => (if t123 = true then (some (kG.1, true)) else (some (kG.1, kG.2))))) else ((aS.f 0 t128 ((decide (t121 < 0)) != (decide (t122 < 0)))).bind fun kF => (if t123 = true then (some (kF.1, true)) else (some (kF.1, kF.2)))))) = some (r1, r2) := H
     have Qo := aj.mk Lj
     clear Lj
     by_cases c17 : t129 > (IntKind.u64.wrap (t125 - t129))
     · rw [if_pos c17] at H
       have acp : decide ((IntKind.u64.wrap (t125 - t129)) < t129) = true := decide_eq_true c17
       clear c17
       replace H := Option.bind_eq_some_iff.mp H
       obtain ⟨⟨t130, t131⟩, ad1, H⟩ := H
       replace H : (if t123 = true then (some (t130, true)) else (some (t130, t131))) = some (r1, r2) := H
       have AA := aj.mk ad1
       clear ad1
       by_cases c19 : t123 = true
       · subst c19
         rw [if_pos rfl] at H
         simp only [Option.some.injEq, Prod.mk.injEq] at H
         obtain ⟨rfl, rfl⟩ := H
         go_enter Try.func93, Try.ntmps93
         go_wp2_with (first | ((with_reducible refine aH (f := 95) rfl ?_); refine bg (some 21) rfl rfl Try.func95 (by kernel_rfl) rfl #[.int .i64 a0, .int .i64 a1] rfl (by (try simp only [List.map_toArray, List.map_cons, List.map_nil]); first | done | rfl | (simp only [List.length_drop, List.length_take]; rfl)) ?_; (with_reducible refine (bY.calls a0 a1 t121 t122 true _ A3.out).mono ?_); rintro e w20 ⟨rfl, hb⟩; refine ⟨_, rfl, ?_⟩; have bF := aj.mk (aP (by repeat (first | (with_reducible first | exact HB.out | apply ak | apply ah | apply au) | exact HB.out)) hb); clear HB; have HB := bF; clear bF; (try clear hb); (try clear hb2); (try clear hk); (try clear hi)) | ((with_reducible refine aH (f := 97) rfl ?_); refine bg (some 39) rfl rfl Try.func97 (by kernel_rfl) rfl #[.int .i64 t121] rfl (by (try simp only [List.map_toArray, List.map_cons, List.map_nil]); first | done | rfl | (simp only [List.length_drop, List.length_take]; rfl)) ?_; (with_reducible refine (bn.calls t121 t124 _ Yb.out).mono ?_); rintro e w' ⟨rfl, ⟨nd, rfl⟩⟩; refine ⟨_, rfl, ?_⟩) | ((with_reducible refine aH (f := 97) rfl ?_); refine bg (some 41) rfl rfl Try.func97 (by kernel_rfl) rfl #[.int .i64 t122] rfl (by (try simp only [List.map_toArray, List.map_cons, List.map_nil]); first | done | rfl | (simp only [List.length_drop, List.length_take]; rfl)) ?_; (with_reducible refine (bn.calls t122 t125 _ Ya.out).mono ?_); rintro e w' ⟨rfl, ⟨nd, rfl⟩⟩; refine ⟨_, rfl, ?_⟩) | ((with_reducible refine aH (f := 112) rfl ?_); refine bg (some 59) rfl rfl Try.func112 (by kernel_rfl) rfl #[.int .u64 (t124 / 1099511627776), .int .u64 (IntKind.u64.wrap (t124 * 16777216)), .int .u64 t125] rfl (by (try simp only [List.map_toArray, List.map_cons, List.map_nil]); first | done | rfl | (simp only [List.length_drop, List.length_take]; rfl)) ?_; (with_reducible refine (aQ.calls k (t124 / 1099511627776) (IntKind.u64.wrap (t124 * 16777216)) t125 t128 t129 _ Qo.out).mono ?_); rintro e w' ⟨rfl, ⟨nd, rfl⟩⟩; refine ⟨_, rfl, ?_⟩) | ((with_reducible refine aH (f := 98) rfl ?_); refine bg (some 84) rfl rfl Try.func98 (by kernel_rfl) rfl #[.int .u64 0, .int .u64 (IntKind.u64.wrap (t128 + 1)), .bool ((decide (t121 < 0)) != (decide (t122 < 0)))] rfl (by (try simp only [List.map_toArray, List.map_cons, List.map_nil]); first | done | rfl | (simp only [List.length_drop, List.length_take]; rfl)) ?_; (with_reducible refine (aS.calls 0 (IntKind.u64.wrap (t128 + 1)) ((decide (t121 < 0)) != (decide (t122 < 0))) t130 t131 _ AA.out).mono ?_); rintro e Yd ⟨rfl, hb⟩; refine ⟨_, rfl, ?_⟩; have bF := aj.mk (aP (by repeat (first | (with_reducible first | exact HB.out | apply ak | apply ah | apply au) | exact HB.out)) hb); clear HB; have HB := bF; clear bF; (try clear hb); (try clear hb2); (try clear hk); (try clear hi)))
         go_ret2
         exact ⟨by first | rfl | (simp [aN, aK] <;> rfl) | (simp [*, aN, aK] <;> rfl), by repeat (first | (with_reducible first | exact HB.out | apply ak | apply ah | apply au) | exact HB.out)⟩
       · replace c19 := Bool.eq_false_iff.mpr c19
         subst c19
         have H1 : (some (t130, t131)) = some (r1, r2) := by rw [if_neg (show ¬ (false = true) by decide)] at H; exact H
         clear H
         have H := H1
         clear H1
         simp only [Option.some.injEq, Prod.mk.injEq] at H
         obtain ⟨rfl, rfl⟩ := H
         go_enter Try.func93, Try.ntmps93
         go_wp2_with (first | ((with_reducible refine aH (f := 95) rfl ?_); refine bg (some 21) rfl rfl Try.func95 (by kernel_rfl) rfl #[.int .i64 a0, .int .i64 a1] rfl (by (try simp only [List.map_toArray, List.map_cons, List.map_nil]); first | done | rfl | (simp only [List.length_drop, List.length_take]; rfl)) ?_; (with_reducible refine (bY.calls a0 a1 t121 t122 false _ A3.out).mono ?_); rintro e w22 ⟨rfl, hb⟩; refine ⟨_, rfl, ?_⟩; have bF := aj.mk (aP (by repeat (first | (with_reducible first | exact HB.out | apply ak | apply ah | apply au) | exact HB.out)) hb); clear HB; have HB := bF; clear bF; (try clear hb); (try clear hb2); (try clear hk); (try clear hi)) | ((with_reducible refine aH (f := 97) rfl ?_); refine bg (some 39) rfl rfl Try.func97 (by kernel_rfl) rfl #[.int .i64 t121] rfl (by (try simp only [List.map_toArray, List.map_cons, List.map_nil]); first | done | rfl | (simp only [List.length_drop, List.length_take]; rfl)) ?_; (with_reducible refine (bn.calls t121 t124 _ Yb.out).mono ?_); rintro e w' ⟨rfl, ⟨nd, rfl⟩⟩; refine ⟨_, rfl, ?_⟩) | ((with_reducible refine aH (f := 97) rfl ?_); refine bg (some 41) rfl rfl Try.func97 (by kernel_rfl) rfl #[.int .i64 t122] rfl (by (try simp only [List.map_toArray, List.map_cons, List.map_nil]); first | done | rfl | (simp only [List.length_drop, List.length_take]; rfl)) ?_; (with_reducible refine (bn.calls t122 t125 _ Ya.out).mono ?_); rintro e w' ⟨rfl, ⟨nd, rfl⟩⟩; refine ⟨_, rfl, ?_⟩) | ((with_reducible refine aH (f := 112) rfl ?_); refine bg (some 59) rfl rfl Try.func112 (by kernel_rfl) rfl #[.int .u64 (t124 / 1099511627776), .int .u64 (IntKind.u64.wrap (t124 * 16777216)), .int .u64 t125] rfl (by (try simp only [List.map_toArray, List.map_cons, List.map_nil]); first | done | rfl | (simp only [List.length_drop, List.length_take]; rfl)) ?_; (with_reducible refine (aQ.calls k (t124 / 1099511627776) (IntKind.u64.wrap (t124 * 16777216)) t125 t128 t129 _ Qo.out).mono ?_); rintro e w' ⟨rfl, ⟨nd, rfl⟩⟩; refine ⟨_, rfl, ?_⟩) | ((with_reducible refine aH (f := 98) rfl ?_); refine bg (some 84) rfl rfl Try.func98 (by kernel_rfl) rfl #[.int .u64 0, .int .u64 (IntKind.u64.wrap (t128 + 1)), .bool ((decide (t121 < 0)) != (decide (t122 < 0)))] rfl (by (try simp only [List.map_toArray, List.map_cons, List.map_nil]); first | done | rfl | (simp only [List.length_drop, List.length_take]; rfl)) ?_; (with_reducible refine (aS.calls 0 (IntKind.u64.wrap (t128 + 1)) ((decide (t121 < 0)) != (decide (t122 < 0))) t130 t131 _ AA.out).mono ?_); rintro e w23 ⟨rfl, hb⟩; refine ⟨_, rfl, ?_⟩; have bF := aj.mk (aP (by repeat (first | (with_reducible first | exact HB.out | apply ak | apply ah | apply au) | exact HB.out)) hb); clear HB; have HB := bF; clear bF; (try clear hb); (try clear hb2); (try clear hk); (try clear hi)))
         go_ret2
         exact ⟨by first | rfl | (simp [aN, aK] <;> rfl) | (simp [*, aN, aK] <;> rfl), by repeat (first | (with_reducible first | exact HB.out | apply ak | apply ah | apply au) | exact HB.out)⟩
     · rw [if_neg c17] at H
       have acp : decide ((IntKind.u64.wrap (t125 - t129)) < t129) = false := decide_eq_false c17
       clear c17
       by_cases c24 : t129 = (IntKind.u64.wrap (t125 - t129))
       · rw [if_pos c24] at H
         have PX : (t129 == (IntKind.u64.wrap (t125 - t129))) = true := beq_iff_eq.mpr c24
         have PW : (t129 != (IntKind.u64.wrap (t125 - t129))) = false := bne_eq_false_iff_eq.mpr c24
         clear c24
         by_cases c25 : (Go.bits .and .u64 t128 1) = 1
         · rw [if_pos c25] at H
           have acm : ((Go.bits .and .u64 t128 1) == 1) = true := beq_iff_eq.mpr c25
           have ack : ((Go.bits .and .u64 t128 1) != 1) = false := bne_eq_false_iff_eq.mpr c25
           clear c25
           replace H := Option.bind_eq_some_iff.mp H
           obtain ⟨⟨t132, t133⟩, adY, H⟩ := H
           replace H : (if t123 = true then (some (t132, true)) else (some (t132, t133))) = some (r1, r2) := H
           have A26 := aj.mk adY
           clear adY
           by_cases Lm : t123 = true
           · subst Lm
             rw [if_pos rfl] at H
             simp only [Option.some.injEq, Prod.mk.injEq] at H
             obtain ⟨rfl, rfl⟩ := H
             go_enter Try.func93, Try.ntmps93
             go_wp2_with (first | ((with_reducible refine aH (f := 95) rfl ?_); refine bg (some 21) rfl rfl Try.func95 (by kernel_rfl) rfl #[.int .i64 a0, .int .i64 a1] rfl (by (try simp only [List.map_toArray, List.map_cons, List.map_nil]); first | done | rfl | (simp only [List.length_drop, List.length_take]; rfl)) ?_; (with_reducible refine (bY.calls a0 a1 t121 t122 true _ A3.out).mono ?_); rintro e w28 ⟨rfl, hb⟩; refine ⟨_, rfl, ?_⟩; have bF := aj.mk (aP (by repeat (first | (with_reducible first | exact HB.out | apply ak | apply ah | apply au) | exact HB.out)) hb); clear HB; have HB := bF; clear bF; (try clear hb); (try clear hb2); (try clear hk); (try clear hi)) | ((with_reducible refine aH (f := 97) rfl ?_); refine bg (some 39) rfl rfl Try.func97 (by kernel_rfl) rfl #[.int .i64 t121] rfl (by (try simp only [List.map_toArray, List.map_cons, List.map_nil]); first | done | rfl | (simp only [List.length_drop, List.length_take]; rfl)) ?_; (with_reducible refine (bn.calls t121 t124 _ Yb.out).mono ?_); rintro e w' ⟨rfl, ⟨nd, rfl⟩⟩; refine ⟨_, rfl, ?_⟩) | ((with_reducible refine aH (f := 97) rfl ?_); refine bg (some 41) rfl rfl Try.func97 (by kernel_rfl) rfl #[.int .i64 t122] rfl (by (try simp only [List.map_toArray, List.map_cons, List.map_nil]); first | done | rfl | (simp only [List.length_drop, List.length_take]; rfl)) ?_; (with_reducible refine (bn.calls t122 t125 _ Ya.out).mono ?_); rintro e w' ⟨rfl, ⟨nd, rfl⟩⟩; refine ⟨_, rfl, ?_⟩) | ((with_reducible refine aH (f := 112) rfl ?_); refine bg (some 59) rfl rfl Try.func112 (by kernel_rfl) rfl #[.int .u64 (t124 / 1099511627776), .int .u64 (IntKind.u64.wrap (t124 * 16777216)), .int .u64 t125] rfl (by (try simp only [List.map_toArray, List.map_cons, List.map_nil]); first | done | rfl | (simp only [List.length_drop, List.length_take]; rfl)) ?_; (with_reducible refine (aQ.calls k (t124 / 1099511627776) (IntKind.u64.wrap (t124 * 16777216)) t125 t128 t129 _ Qo.out).mono ?_); rintro e w' ⟨rfl, ⟨nd, rfl⟩⟩; refine ⟨_, rfl, ?_⟩) | ((with_reducible refine aH (f := 98) rfl ?_); refine bg (some 84) rfl rfl Try.func98 (by kernel_rfl) rfl #[.int .u64 0, .int .u64 (IntKind.u64.wrap (t128 + 1)), .bool ((decide (t121 < 0)) != (decide (t122 < 0)))] rfl (by (try simp only [List.map_toArray, List.map_cons, List.map_nil]); first | done | rfl | (simp only [List.length_drop, List.length_take]; rfl)) ?_; (with_reducible refine (aS.calls 0 (IntKind.u64.wrap (t128 + 1)) ((decide (t121 < 0)) != (decide (t122 < 0))) t132 t133 _ A26.out).mono ?_); rintro e w29 ⟨rfl, hb⟩; refine ⟨_, rfl, ?_⟩; have bF := aj.mk (aP (by repeat (first | (with_reducible first | exact HB.out | apply ak | apply ah | apply au) | exact HB.out)) hb); clear HB; have HB := bF; clear bF; (try clear hb); (try clear hb2); (try clear hk); (try clear hi)))
             go_ret2
             exact ⟨by first | rfl | (simp [aN, aK] <;> rfl) | (simp [*, aN, aK] <;> rfl), by repeat (first | (with_reducible first | exact HB.out | apply ak | apply ah | apply au) | exact HB.out)⟩
           · replace Lm := Bool.eq_false_iff.mpr Lm
             subst Lm
             have H1 : (some (t132, t133)) = some (r1, r2) := by rw [if_neg (show ¬ (false = true) by decide)] at H; exact H
             clear H
             have H := H1
             clear H1
             simp only [Option.some.injEq, Prod.mk.injEq] at H
             obtain ⟨rfl, rfl⟩ := H
             go_enter Try.func93, Try.ntmps93
             go_wp2_with (first | ((with_reducible refine aH (f := 95) rfl ?_); refine bg (some 21) rfl rfl Try.func95 (by kernel_rfl) rfl #[.int .i64 a0, .int .i64 a1] rfl (by (try simp only [List.map_toArray, List.map_cons, List.map_nil]); first | done | rfl | (simp only [List.length_drop, List.length_take]; rfl)) ?_; (with_reducible refine (bY.calls a0 a1 t121 t122 false _ A3.out).mono ?_); rintro e w30 ⟨rfl, hb⟩; refine ⟨_, rfl, ?_⟩; have bF := aj.mk (aP (by repeat (first | (with_reducible first | exact HB.out | apply ak | apply ah | apply au) | exact HB.out)) hb); clear HB; have HB := bF; clear bF; (try clear hb); (try clear hb2); (try clear hk); (try clear hi)) | ((with_reducible refine aH (f := 97) rfl ?_); refine bg (some 39) rfl rfl Try.func97 (by kernel_rfl) rfl #[.int .i64 t121] rfl (by (try simp only [List.map_toArray, List.map_cons, List.map_nil]); first | done | rfl | (simp only [List.length_drop, List.length_take]; rfl)) ?_; (with_reducible refine (bn.calls t121 t124 _ Yb.out).mono ?_); rintro e w' ⟨rfl, ⟨nd, rfl⟩⟩; refine ⟨_, rfl, ?_⟩) | ((with_reducible refine aH (f := 97) rfl ?_); refine bg (some 41) rfl rfl Try.func97 (by kernel_rfl) rfl #[.int .i64 t122] rfl (by (try simp only [List.map_toArray, List.map_cons, List.map_nil]); first | done | rfl | (simp only [List.length_drop, List.length_take]; rfl)) ?_; (with_reducible refine (bn.calls t122 t125 _ Ya.out).mono ?_); rintro e w' ⟨rfl, ⟨nd, rfl⟩⟩; refine ⟨_, rfl, ?_⟩) | ((with_reducible refine aH (f := 112) rfl ?_); refine bg (some 59) rfl rfl Try.func112 (by kernel_rfl) rfl #[.int .u64 (t124 / 1099511627776), .int .u64 (IntKind.u64.wrap (t124 * 16777216)), .int .u64 t125] rfl (by (try simp only [List.map_toArray, List.map_cons, List.map_nil]); first | done | rfl | (simp only [List.length_drop, List.length_take]; rfl)) ?_; (with_reducible refine (aQ.calls k (t124 / 1099511627776) (IntKind.u64.wrap (t124 * 16777216)) t125 t128 t129 _ Qo.out).mono ?_); rintro e w' ⟨rfl, ⟨nd, rfl⟩⟩; refine ⟨_, rfl, ?_⟩) | ((with_reducible refine aH (f := 98) rfl ?_); refine bg (some 84) rfl rfl Try.func98 (by kernel_rfl) rfl #[.int .u64 0, .int .u64 (IntKind.u64.wrap (t128 + 1)), .bool ((decide (t121 < 0)) != (decide (t122 < 0)))] rfl (by (try simp only [List.map_toArray, List.map_cons, List.map_nil]); first | done | rfl | (simp only [List.length_drop, List.length_take]; rfl)) ?_; (with_reducible refine (aS.calls 0 (IntKind.u64.wrap (t128 + 1)) ((decide (t121 < 0)) != (decide (t122 < 0))) t132 t133 _ A26.out).mono ?_); rintro e w31 ⟨rfl, hb⟩; refine ⟨_, rfl, ?_⟩; have bF := aj.mk (aP (by repeat (first | (with_reducible first | exact HB.out | apply ak | apply ah | apply au) | exact HB.out)) hb); clear HB; have HB := bF; clear bF; (try clear hb); (try clear hb2); (try clear hk); (try clear hi)))
             go_ret2
             exact ⟨by first | rfl | (simp [aN, aK] <;> rfl) | (simp [*, aN, aK] <;> rfl), by repeat (first | (with_reducible first | exact HB.out | apply ak | apply ah | apply au) | exact HB.out)⟩
         · rw [if_neg c25] at H
           have acm : ((Go.bits .and .u64 t128 1) == 1) = false := beq_eq_false_iff_ne.mpr c25
           have ack : ((Go.bits .and .u64 t128 1) != 1) = true := bne_iff_ne.mpr c25
           replace H := Option.bind_eq_some_iff.mp H
           obtain ⟨⟨t134, t135⟩, adW, H⟩ := H
           replace H : (if t123 = true then (some (t134, true)) else (some (t134, t135))) = some (r1, r2) := H
           have A32 := aj.mk adW
           clear adW
           by_cases SQ : t123 = true
           · subst SQ
             rw [if_pos rfl] at H
             simp only [Option.some.injEq, Prod.mk.injEq] at H
             obtain ⟨rfl, rfl⟩ := H
             go_enter Try.func93, Try.ntmps93
             go_wp2_with (first | ((with_reducible refine aH (f := 95) rfl ?_); refine bg (some 21) rfl rfl Try.func95 (by kernel_rfl) rfl #[.int .i64 a0, .int .i64 a1] rfl (by (try simp only [List.map_toArray, List.map_cons, List.map_nil]); first | done | rfl | (simp only [List.length_drop, List.length_take]; rfl)) ?_; (with_reducible refine (bY.calls a0 a1 t121 t122 true _ A3.out).mono ?_); rintro e w34 ⟨rfl, hb⟩; refine ⟨_, rfl, ?_⟩; have bF := aj.mk (aP (by repeat (first | (with_reducible first | exact HB.out | apply ak | apply ah | apply au) | exact HB.out)) hb); clear HB; have HB := bF; clear bF; (try clear hb); (try clear hb2); (try clear hk); (try clear hi)) | ((with_reducible refine aH (f := 97) rfl ?_); refine bg (some 39) rfl rfl Try.func97 (by kernel_rfl) rfl #[.int .i64 t121] rfl (by (try simp only [List.map_toArray, List.map_cons, List.map_nil]); first | done | rfl | (simp only [List.length_drop, List.length_take]; rfl)) ?_; (with_reducible refine (bn.calls t121 t124 _ Yb.out).mono ?_); rintro e w' ⟨rfl, ⟨nd, rfl⟩⟩; refine ⟨_, rfl, ?_⟩) | ((with_reducible refine aH (f := 97) rfl ?_); refine bg (some 41) rfl rfl Try.func97 (by kernel_rfl) rfl #[.int .i64 t122] rfl (by (try simp only [List.map_toArray, List.map_cons, List.map_nil]); first | done | rfl | (simp only [List.length_drop, List.length_take]; rfl)) ?_; (with_reducible refine (bn.calls t122 t125 _ Ya.out).mono ?_); rintro e w' ⟨rfl, ⟨nd, rfl⟩⟩; refine ⟨_, rfl, ?_⟩) | ((with_reducible refine aH (f := 112) rfl ?_); refine bg (some 59) rfl rfl Try.func112 (by kernel_rfl) rfl #[.int .u64 (t124 / 1099511627776), .int .u64 (IntKind.u64.wrap (t124 * 16777216)), .int .u64 t125] rfl (by (try simp only [List.map_toArray, List.map_cons, List.map_nil]); first | done | rfl | (simp only [List.length_drop, List.length_take]; rfl)) ?_; (with_reducible refine (aQ.calls k (t124 / 1099511627776) (IntKind.u64.wrap (t124 * 16777216)) t125 t128 t129 _ Qo.out).mono ?_); rintro e w' ⟨rfl, ⟨nd, rfl⟩⟩; refine ⟨_, rfl, ?_⟩) | ((with_reducible refine aH (f := 98) rfl ?_); refine bg (some 84) rfl rfl Try.func98 (by kernel_rfl) rfl #[.int .u64 0, .int .u64 t128, .bool ((decide (t121 < 0)) != (decide (t122 < 0)))] rfl (by (try simp only [List.map_toArray, List.map_cons, List.map_nil]); first | done | rfl | (simp only [List.length_drop, List.length_take]; rfl)) ?_; (with_reducible refine (aS.calls 0 t128 ((decide (t121 < 0)) != (decide (t122 < 0))) t134 t135 _ A32.out).mono ?_); rintro e w35 ⟨rfl, hb⟩; refine ⟨_, rfl, ?_⟩; have bF := aj.mk (aP (by repeat (first | (with_reducible first | exact HB.out | apply ak | apply ah | apply au) | exact HB.out)) hb); clear HB; have HB := bF; clear bF; (try clear hb); (try clear hb2); (try clear hk); (try clear hi)))
             go_ret2
             exact ⟨by first | rfl | (simp [aN, aK] <;> rfl) | (simp [*, aN, aK] <;> rfl), by repeat (first | (with_reducible first | exact HB.out | apply ak | apply ah | apply au) | exact HB.out)⟩
           · replace SQ := Bool.eq_false_iff.mpr SQ
             subst SQ
             have H1 : (some (t134, t135)) = some (r1, r2) := by rw [if_neg (show ¬ (false = true) by decide)] at H; exact H
             clear H
             have H := H1
             clear H1
             simp only [Option.some.injEq, Prod.mk.injEq] at H
             obtain ⟨rfl, rfl⟩ := H
             go_enter Try.func93, Try.ntmps93
             go_wp2_with (first | ((with_reducible refine aH (f := 95) rfl ?_); refine bg (some 21) rfl rfl Try.func95 (by kernel_rfl) rfl #[.int .i64 a0, .int .i64 a1] rfl (by (try simp only [List.map_toArray, List.map_cons, List.map_nil]); first | done | rfl | (simp only [List.length_drop, List.length_take]; rfl)) ?_; (with_reducible refine (bY.calls a0 a1 t121 t122 false _ A3.out).mono ?_); rintro e w36 ⟨rfl, hb⟩; refine ⟨_, rfl, ?_⟩; have bF := aj.mk (aP (by repeat (first | (with_reducible first | exact HB.out | apply ak | apply ah | apply au) | exact HB.out)) hb); clear HB; have HB := bF; clear bF; (try clear hb); (try clear hb2); (try clear hk); (try clear hi)) | ((with_reducible refine aH (f := 97) rfl ?_); refine bg (some 39) rfl rfl Try.func97 (by kernel_rfl) rfl #[.int .i64 t121] rfl (by (try simp only [List.map_toArray, List.map_cons, List.map_nil]); first | done | rfl | (simp only [List.length_drop, List.length_take]; rfl)) ?_; (with_reducible refine (bn.calls t121 t124 _ Yb.out).mono ?_); rintro e w' ⟨rfl, ⟨nd, rfl⟩⟩; refine ⟨_, rfl, ?_⟩) | ((with_reducible refine aH (f := 97) rfl ?_); refine bg (some 41) rfl rfl Try.func97 (by kernel_rfl) rfl #[.int .i64 t122] rfl (by (try simp only [List.map_toArray, List.map_cons, List.map_nil]); first | done | rfl | (simp only [List.length_drop, List.length_take]; rfl)) ?_; (with_reducible refine (bn.calls t122 t125 _ Ya.out).mono ?_); rintro e w' ⟨rfl, ⟨nd, rfl⟩⟩; refine ⟨_, rfl, ?_⟩) | ((with_reducible refine aH (f := 112) rfl ?_); refine bg (some 59) rfl rfl Try.func112 (by kernel_rfl) rfl #[.int .u64 (t124 / 1099511627776), .int .u64 (IntKind.u64.wrap (t124 * 16777216)), .int .u64 t125] rfl (by (try simp only [List.map_toArray, List.map_cons, List.map_nil]); first | done | rfl | (simp only [List.length_drop, List.length_take]; rfl)) ?_; (with_reducible refine (aQ.calls k (t124 / 1099511627776) (IntKind.u64.wrap (t124 * 16777216)) t125 t128 t129 _ Qo.out).mono ?_); rintro e w' ⟨rfl, ⟨nd, rfl⟩⟩; refine ⟨_, rfl, ?_⟩) | ((with_reducible refine aH (f := 98) rfl ?_); refine bg (some 84) rfl rfl Try.func98 (by kernel_rfl) rfl #[.int .u64 0, .int .u64 t128, .bool ((decide (t121 < 0)) != (decide (t122 < 0)))] rfl (by (try simp only [List.map_toArray, List.map_cons, List.map_nil]); first | done | rfl | (simp only [List.length_drop, List.length_take]; rfl)) ?_; (with_reducible refine (aS.calls 0 t128 ((decide (t121 < 0)) != (decide (t122 < 0))) t134 t135 _ A32.out).mono ?_); rintro e w37 ⟨rfl, hb⟩; refine ⟨_, rfl, ?_⟩; have bF := aj.mk (aP (by repeat (first | (with_reducible first | exact HB.out | apply ak | apply ah | apply au) | exact HB.out)) hb); clear HB; have HB := bF; clear bF; (try clear hb); (try clear hb2); (try clear hk); (try clear hi)))
             go_ret2
             exact ⟨by first | rfl | (simp [aN, aK] <;> rfl) | (simp [*, aN, aK] <;> rfl), by repeat (first | (with_reducible first | exact HB.out | apply ak | apply ah | apply au) | exact HB.out)⟩
       · rw [if_neg c24] at H
         have PX : (t129 == (IntKind.u64.wrap (t125 - t129))) = false := beq_eq_false_iff_ne.mpr c24
         have PW : (t129 != (IntKind.u64.wrap (t125 - t129))) = true := bne_iff_ne.mpr c24
         replace H := Option.bind_eq_some_iff.mp H
         obtain ⟨⟨t136, t137⟩, adV, H⟩ := H
         replace H : (if t123 = true then (some (t136, true)) else (some (t136, t137))) = some (r1, r2) := H
         have A38 := aj.mk adV
         clear adV
         by_cases c39 : t123 = true
         · subst c39
           rw [if_pos rfl] at H
           simp only [Option.some.injEq, Prod.mk.injEq] at H
           obtain ⟨rfl, rfl⟩ := H
           go_enter Try.func93, Try.ntmps93
           go_wp2_with (first | ((with_reducible refine aH (f := 95) rfl ?_); refine bg (some 21) rfl rfl Try.func95 (by kernel_rfl) rfl #[.int .i64 a0, .int .i64 a1] rfl (by (try simp only [List.map_toArray, List.map_cons, List.map_nil]); first | done | rfl | (simp only [List.length_drop, List.length_take]; rfl)) ?_; (with_reducible refine (bY.calls a0 a1 t121 t122 true _ A3.out).mono ?_); rintro e w40 ⟨rfl, hb⟩; refine ⟨_, rfl, ?_⟩; have bF := aj.mk (aP (by repeat (first | (with_reducible first | exact HB.out | apply ak | apply ah | apply au) | exact HB.out)) hb); clear HB; have HB := bF; clear bF; (try clear hb); (try clear hb2); (try clear hk); (try clear hi)) | ((with_reducible refine aH (f := 97) rfl ?_); refine bg (some 39) rfl rfl Try.func97 (by kernel_rfl) rfl #[.int .i64 t121] rfl (by (try simp only [List.map_toArray, List.map_cons, List.map_nil]); first | done | rfl | (simp only [List.length_drop, List.length_take]; rfl)) ?_; (with_reducible refine (bn.calls t121 t124 _ Yb.out).mono ?_); rintro e w' ⟨rfl, ⟨nd, rfl⟩⟩; refine ⟨_, rfl, ?_⟩) | ((with_reducible refine aH (f := 97) rfl ?_); refine bg (some 41) rfl rfl Try.func97 (by kernel_rfl) rfl #[.int .i64 t122] rfl (by (try simp only [List.map_toArray, List.map_cons, List.map_nil]); first | done | rfl | (simp only [List.length_drop, List.length_take]; rfl)) ?_; (with_reducible refine (bn.calls t122 t125 _ Ya.out).mono ?_); rintro e w' ⟨rfl, ⟨nd, rfl⟩⟩; refine ⟨_, rfl, ?_⟩) | ((with_reducible refine aH (f := 112) rfl ?_); refine bg (some 59) rfl rfl Try.func112 (by kernel_rfl) rfl #[.int .u64 (t124 / 1099511627776), .int .u64 (IntKind.u64.wrap (t124 * 16777216)), .int .u64 t125] rfl (by (try simp only [List.map_toArray, List.map_cons, List.map_nil]); first | done | rfl | (simp only [List.length_drop, List.length_take]; rfl)) ?_; (with_reducible refine (aQ.calls k (t124 / 1099511627776) (IntKind.u64.wrap (t124 * 16777216)) t125 t128 t129 _ Qo.out).mono ?_); rintro e w' ⟨rfl, ⟨nd, rfl⟩⟩; refine ⟨_, rfl, ?_⟩) | ((with_reducible refine aH (f := 98) rfl ?_); refine bg (some 84) rfl rfl Try.func98 (by kernel_rfl) rfl #[.int .u64 0, .int .u64 t128, .bool ((decide (t121 < 0)) != (decide (t122 < 0)))] rfl (by (try simp only [List.map_toArray, List.map_cons, List.map_nil]); first | done | rfl | (simp only [List.length_drop, List.length_take]; rfl)) ?_; (with_reducible refine (aS.calls 0 t128 ((decide (t121 < 0)) != (decide (t122 < 0))) t136 t137 _ A38.out).mono ?_); rintro e w41 ⟨rfl, hb⟩; refine ⟨_, rfl, ?_⟩; have bF := aj.mk (aP (by repeat (first | (with_reducible first | exact HB.out | apply ak | apply ah | apply au) | exact HB.out)) hb); clear HB; have HB := bF; clear bF; (try clear hb); (try clear hb2); (try clear hk); (try clear hi)))
           go_ret2
           exact ⟨by first | rfl | (simp [aN, aK] <;> rfl) | (simp [*, aN, aK] <;> rfl), by repeat (first | (with_reducible first | exact HB.out | apply ak | apply ah | apply au) | exact HB.out)⟩
         · replace c39 := Bool.eq_false_iff.mpr c39
           subst c39
           have H1 : (some (t136, t137)) = some (r1, r2) := by rw [if_neg (show ¬ (false = true) by decide)] at H; exact H
           clear H
           have H := H1
           clear H1
           simp only [Option.some.injEq, Prod.mk.injEq] at H
           obtain ⟨rfl, rfl⟩ := H
           go_enter Try.func93, Try.ntmps93
           go_wp2_with (first | ((with_reducible refine aH (f := 95) rfl ?_); refine bg (some 21) rfl rfl Try.func95 (by kernel_rfl) rfl #[.int .i64 a0, .int .i64 a1] rfl (by (try simp only [List.map_toArray, List.map_cons, List.map_nil]); first | done | rfl | (simp only [List.length_drop, List.length_take]; rfl)) ?_; (with_reducible refine (bY.calls a0 a1 t121 t122 false _ A3.out).mono ?_); rintro e w42 ⟨rfl, hb⟩; refine ⟨_, rfl, ?_⟩; have bF := aj.mk (aP (by repeat (first | (with_reducible first | exact HB.out | apply ak | apply ah | apply au) | exact HB.out)) hb); clear HB; have HB := bF; clear bF; (try clear hb); (try clear hb2); (try clear hk); (try clear hi)) | ((with_reducible refine aH (f := 97) rfl ?_); refine bg (some 39) rfl rfl Try.func97 (by kernel_rfl) rfl #[.int .i64 t121] rfl (by (try simp only [List.map_toArray, List.map_cons, List.map_nil]); first | done | rfl | (simp only [List.length_drop, List.length_take]; rfl)) ?_; (with_reducible refine (bn.calls t121 t124 _ Yb.out).mono ?_); rintro e w' ⟨rfl, ⟨nd, rfl⟩⟩; refine ⟨_, rfl, ?_⟩) | ((with_reducible refine aH (f := 97) rfl ?_); refine bg (some 41) rfl rfl Try.func97 (by kernel_rfl) rfl #[.int .i64 t122] rfl (by (try simp only [List.map_toArray, List.map_cons, List.map_nil]); first | done | rfl | (simp only [List.length_drop, List.length_take]; rfl)) ?_; (with_reducible refine (bn.calls t122 t125 _ Ya.out).mono ?_); rintro e w' ⟨rfl, ⟨nd, rfl⟩⟩; refine ⟨_, rfl, ?_⟩) | ((with_reducible refine aH (f := 112) rfl ?_); refine bg (some 59) rfl rfl Try.func112 (by kernel_rfl) rfl #[.int .u64 (t124 / 1099511627776), .int .u64 (IntKind.u64.wrap (t124 * 16777216)), .int .u64 t125] rfl (by (try simp only [List.map_toArray, List.map_cons, List.map_nil]); first | done | rfl | (simp only [List.length_drop, List.length_take]; rfl)) ?_; (with_reducible refine (aQ.calls k (t124 / 1099511627776) (IntKind.u64.wrap (t124 * 16777216)) t125 t128 t129 _ Qo.out).mono ?_); rintro e w' ⟨rfl, ⟨nd, rfl⟩⟩; refine ⟨_, rfl, ?_⟩) | ((with_reducible refine aH (f := 98) rfl ?_); refine bg (some 84) rfl rfl Try.func98 (by kernel_rfl) rfl #[.int .u64 0, .int .u64 t128, .bool ((decide (t121 < 0)) != (decide (t122 < 0)))] rfl (by (try simp only [List.map_toArray, List.map_cons, List.map_nil]); first | done | rfl | (simp only [List.length_drop, List.length_take]; rfl)) ?_; (with_reducible refine (aS.calls 0 t128 ((decide (t121 < 0)) != (decide (t122 < 0))) t136 t137 _ A38.out).mono ?_); rintro e w43 ⟨rfl, hb⟩; refine ⟨_, rfl, ?_⟩; have bF := aj.mk (aP (by repeat (first | (with_reducible first | exact HB.out | apply ak | apply ah | apply au) | exact HB.out)) hb); clear HB; have HB := bF; clear bF; (try clear hb); (try clear hb2); (try clear hk); (try clear hi)))
           go_ret2
           exact ⟨by first | rfl | (simp [aN, aK] <;> rfl) | (simp [*, aN, aK] <;> rfl), by repeat (first | (with_reducible first | exact HB.out | apply ak | apply ah | apply au) | exact HB.out)⟩
def sF.f (a0 : Int) (a1 : Int) : Option (Int × Bool) := (bY.f a0 a1).bind fun EC => ((cZ.f (wrap64 (EC.1 - EC.2.1))).bind fun vX => (if EC.2.2 = true then (some (vX.1, true)) else (some (vX.1, vX.2))))
theorem sF.calls (a0 : Int) (a1 : Int) (r1 : Int) (r2 : Bool) (w : World) (h : sF.f a0 a1 = some (r1, r2)) :
 Calls Try.prog 66 #[.int .i64 a0, .int .i64 a1] w fun e w' => e = .returned (.tuple #[.int .i64 r1, .bool r2]) ∧ Below w.heap.size w w' := by
 have HB := aj.mk (Below.refl w.heap.size w)
 have H : ((bY.f a0 a1).bind fun EC => ((cZ.f (wrap64 (EC.1 - EC.2.1))).bind fun vX => (if EC.2.2 = true then (some (vX.1, true)) else (some (vX.1, vX.2))))) = some (r1, r2) := h
 clear h
 replace H := Option.bind_eq_some_iff.mp H
 obtain ⟨⟨t138, t139, t140⟩, BD, H⟩ := H
 replace H : ((cZ.f (wrap64 (t138 - t139))).bind fun vX => (if t140 = true then (some (vX.1, true)) else (some (vX.1, vX.2)))) = some (r1, r2) := H
 have A3 := aj.mk BD
 clear BD
 replace H := Option.bind_eq_some_iff.mp H
 obtain ⟨⟨t141, t142⟩, Lh, H⟩ := H
 replace H : (if t140 = true then (some (t141, true)) else (some (t141, t142))) = some (r1, r2) := H
 have A4 := aj.mk Lh
 clear Lh
 by_cases c5 : t140 = true
 · subst c5
   rw [if_pos rfl] at H
   simp only [Option.some.injEq, Prod.mk.injEq] at H
   obtain ⟨rfl, rfl⟩ := H
   go_enter Try.func66, Try.ntmps66
   go_wp2_with (first | ((with_reducible refine aH (f := 95) rfl ?_); refine bg (some 12) rfl rfl Try.func95 (by kernel_rfl) rfl #[.int .i64 a0, .int .i64 a1] rfl (by (try simp only [List.map_toArray, List.map_cons, List.map_nil]); first | done | rfl | (simp only [List.length_drop, List.length_take]; rfl)) ?_; (with_reducible refine (bY.calls a0 a1 t138 t139 true _ A3.out).mono ?_); rintro e w6 ⟨rfl, hb⟩; refine ⟨_, rfl, ?_⟩; have bF := aj.mk (aP (by repeat (first | (with_reducible first | exact HB.out | apply ak | apply ah | apply au) | exact HB.out)) hb); clear HB; have HB := bF; clear bF; (try clear hb); (try clear hb2); (try clear hk); (try clear hi)) | ((with_reducible refine aH (f := 86) rfl ?_); refine bg (some 20) rfl rfl Try.func86 (by kernel_rfl) rfl #[.int .i64 (wrap64 (t138 - t139))] rfl (by (try simp only [List.map_toArray, List.map_cons, List.map_nil]); first | done | rfl | (simp only [List.length_drop, List.length_take]; rfl)) ?_; (with_reducible refine (cZ.calls (wrap64 (t138 - t139)) t141 t142 _ A4.out).mono ?_); rintro e w7 ⟨rfl, hb⟩; refine ⟨_, rfl, ?_⟩; have bF := aj.mk (aP (by repeat (first | (with_reducible first | exact HB.out | apply ak | apply ah | apply au) | exact HB.out)) hb); clear HB; have HB := bF; clear bF; (try clear hb); (try clear hb2); (try clear hk); (try clear hi)))
   go_ret2
   exact ⟨by first | rfl | (simp [aN, aK] <;> rfl) | (simp [*, aN, aK] <;> rfl), by repeat (first | (with_reducible first | exact HB.out | apply ak | apply ah | apply au) | exact HB.out)⟩
 · replace c5 := Bool.eq_false_iff.mpr c5
   subst c5
   have H1 : (some (t141, t142)) = some (r1, r2) := by rw [if_neg (show ¬ (false = true) by decide)] at H; exact H
   clear H
   have H := H1
   clear H1
   simp only [Option.some.injEq, Prod.mk.injEq] at H
   obtain ⟨rfl, rfl⟩ := H
   go_enter Try.func66, Try.ntmps66
   go_wp2_with (first | ((with_reducible refine aH (f := 95) rfl ?_); refine bg (some 12) rfl rfl Try.func95 (by kernel_rfl) rfl #[.int .i64 a0, .int .i64 a1] rfl (by (try simp only [List.map_toArray, List.map_cons, List.map_nil]); first | done | rfl | (simp only [List.length_drop, List.length_take]; rfl)) ?_; (with_reducible refine (bY.calls a0 a1 t138 t139 false _ A3.out).mono ?_); rintro e w8 ⟨rfl, hb⟩; refine ⟨_, rfl, ?_⟩; have bF := aj.mk (aP (by repeat (first | (with_reducible first | exact HB.out | apply ak | apply ah | apply au) | exact HB.out)) hb); clear HB; have HB := bF; clear bF; (try clear hb); (try clear hb2); (try clear hk); (try clear hi)) | ((with_reducible refine aH (f := 86) rfl ?_); refine bg (some 20) rfl rfl Try.func86 (by kernel_rfl) rfl #[.int .i64 (wrap64 (t138 - t139))] rfl (by (try simp only [List.map_toArray, List.map_cons, List.map_nil]); first | done | rfl | (simp only [List.length_drop, List.length_take]; rfl)) ?_; (with_reducible refine (cZ.calls (wrap64 (t138 - t139)) t141 t142 _ A4.out).mono ?_); rintro e w9 ⟨rfl, hb⟩; refine ⟨_, rfl, ?_⟩; have bF := aj.mk (aP (by repeat (first | (with_reducible first | exact HB.out | apply ak | apply ah | apply au) | exact HB.out)) hb); clear HB; have HB := bF; clear bF; (try clear hb); (try clear hb2); (try clear hk); (try clear hi)))
   go_ret2
   exact ⟨by first | rfl | (simp [aN, aK] <;> rfl) | (simp [*, aN, aK] <;> rfl), by repeat (first | (with_reducible first | exact HB.out | apply ak | apply ah | apply au) | exact HB.out)⟩
end Go.Proofs.Ytnijhjbcjeohhaa.PQ

namespace Go.Proofs.Ytnijhjbcjeohhaa.PQ
open Go.RowKit Go.Proofs.af.aO Go.Proofs.af.aV Go.Proofs.af.aX
attribute [local go_sem] iU iR jU jT gY gX iT iQ
set_option linter.unusedVariables false
set_option linter.unusedSimpArgs false
def sH.f (a0 : Int) (a1 : Int) : Option (Int × Bool) := (bY.f a0 a1).bind fun Ez => ((cZ.f (wrap64 (Ez.1 + Ez.2.1))).bind fun vW => (if Ez.2.2 = true then (some (vW.1, true)) else (some (vW.1, vW.2))))
theorem sH.calls (a0 : Int) (a1 : Int) (r1 : Int) (r2 : Bool) (w : World) (h : sH.f a0 a1 = some (r1, r2)) :
 Calls Try.prog 69 #[.int .i64 a0, .int .i64 a1] w fun e w' => e = .returned (.tuple #[.int .i64 r1, .bool r2]) ∧ Below w.heap.size w w' := by
 have HB := aj.mk (Below.refl w.heap.size w)
 have H : ((bY.f a0 a1).bind fun Ez => ((cZ.f (wrap64 (Ez.1 + Ez.2.1))).bind fun vW => (if Ez.2.2 = true then (some (vW.1, true)) else (some (vW.1, vW.2))))) = some (r1, r2) := h
 clear h
 replace H := Option.bind_eq_some_iff.mp H
 obtain ⟨⟨t143, t144, t145⟩, BD, H⟩ := H
 replace H : ((cZ.f (wrap64 (t143 + t144))).bind fun vW => (if t145 = true then (some (vW.1, true)) else (some (vW.1, vW.2)))) = some (r1, r2) := H
 have A3 := aj.mk BD
 clear BD
 replace H := Option.bind_eq_some_iff.mp H
 obtain ⟨⟨t146, t147⟩, Lh, H⟩ := H
 replace H : (if t145 = true then (some (t146, true)) else (some (t146, t147))) = some (r1, r2) := H
 have A4 := aj.mk Lh
 clear Lh
 by_cases c5 : t145 = true
 · subst c5
   rw [if_pos rfl] at H
   simp only [Option.some.injEq, Prod.mk.injEq] at H
   obtain ⟨rfl, rfl⟩ := H
   go_enter Try.func69, Try.ntmps69
   go_wp2_with (first | ((with_reducible refine aH (f := 95) rfl ?_); refine bg (some 12) rfl rfl Try.func95 (by kernel_rfl) rfl #[.int .i64 a0, .int .i64 a1] rfl (by (try simp only [List.map_toArray, List.map_cons, List.map_nil]); first | done | rfl | (simp only [List.length_drop, List.length_take]; rfl)) ?_; (with_reducible refine (bY.calls a0 a1 t143 t144 true _ A3.out).mono ?_); rintro e w6 ⟨rfl, hb⟩; refine ⟨_, rfl, ?_⟩; have bF := aj.mk (aP (by repeat (first | (with_reducible first | exact HB.out | apply ak | apply ah | apply au) | exact HB.out)) hb); clear HB; have HB := bF; clear bF; (try clear hb); (try clear hb2); (try clear hk); (try clear hi)) | ((with_reducible refine aH (f := 86) rfl ?_); refine bg (some 20) rfl rfl Try.func86 (by kernel_rfl) rfl #[.int .i64 (wrap64 (t143 + t144))] rfl (by (try simp only [List.map_toArray, List.map_cons, List.map_nil]); first | done | rfl | (simp only [List.length_drop, List.length_take]; rfl)) ?_; (with_reducible refine (cZ.calls (wrap64 (t143 + t144)) t146 t147 _ A4.out).mono ?_); rintro e w7 ⟨rfl, hb⟩; refine ⟨_, rfl, ?_⟩; have bF := aj.mk (aP (by repeat (first | (with_reducible first | exact HB.out | apply ak | apply ah | apply au) | exact HB.out)) hb); clear HB; have HB := bF; clear bF; (try clear hb); (try clear hb2); (try clear hk); (try clear hi)))
   go_ret2
   exact ⟨by first | rfl | (simp [aN, aK] <;> rfl) | (simp [*, aN, aK] <;> rfl), by repeat (first | (with_reducible first | exact HB.out | apply ak | apply ah | apply au) | exact HB.out)⟩
 · replace c5 := Bool.eq_false_iff.mpr c5
   subst c5
   have H1 : (some (t146, t147)) = some (r1, r2) := by rw [if_neg (show ¬ (false = true) by decide)] at H; exact H
   clear H
   have H := H1
   clear H1
   simp only [Option.some.injEq, Prod.mk.injEq] at H
   obtain ⟨rfl, rfl⟩ := H
   go_enter Try.func69, Try.ntmps69
   go_wp2_with (first | ((with_reducible refine aH (f := 95) rfl ?_); refine bg (some 12) rfl rfl Try.func95 (by kernel_rfl) rfl #[.int .i64 a0, .int .i64 a1] rfl (by (try simp only [List.map_toArray, List.map_cons, List.map_nil]); first | done | rfl | (simp only [List.length_drop, List.length_take]; rfl)) ?_; (with_reducible refine (bY.calls a0 a1 t143 t144 false _ A3.out).mono ?_); rintro e w8 ⟨rfl, hb⟩; refine ⟨_, rfl, ?_⟩; have bF := aj.mk (aP (by repeat (first | (with_reducible first | exact HB.out | apply ak | apply ah | apply au) | exact HB.out)) hb); clear HB; have HB := bF; clear bF; (try clear hb); (try clear hb2); (try clear hk); (try clear hi)) | ((with_reducible refine aH (f := 86) rfl ?_); refine bg (some 20) rfl rfl Try.func86 (by kernel_rfl) rfl #[.int .i64 (wrap64 (t143 + t144))] rfl (by (try simp only [List.map_toArray, List.map_cons, List.map_nil]); first | done | rfl | (simp only [List.length_drop, List.length_take]; rfl)) ?_; (with_reducible refine (cZ.calls (wrap64 (t143 + t144)) t146 t147 _ A4.out).mono ?_); rintro e w9 ⟨rfl, hb⟩; refine ⟨_, rfl, ?_⟩; have bF := aj.mk (aP (by repeat (first | (with_reducible first | exact HB.out | apply ak | apply ah | apply au) | exact HB.out)) hb); clear HB; have HB := bF; clear bF; (try clear hb); (try clear hb2); (try clear hk); (try clear hi)))
   go_ret2
   exact ⟨by first | rfl | (simp [aN, aK] <;> rfl) | (simp [*, aN, aK] <;> rfl), by repeat (first | (with_reducible first | exact HB.out | apply ak | apply ah | apply au) | exact HB.out)⟩
def iH.f (a0 : Int) (a1 : Int) : Option (Int) := if (mn (mx a1 0) 62) > 0 then (if 0 ≤ ((mn (mx a1 0) 62) - 1) then (if (Go.bits .and .u64 (IntKind.u64.wrap (a0)) (IntKind.u64.wrap ((IntKind.u64.wrap (2 ^ (mn (mx a1 0) 62).toNat)) - 1))) > (IntKind.u64.wrap (2 ^ ((mn (mx a1 0) 62) - 1).toNat)) then (some (wrap64 ((a0 / 2 ^ (mn (mx a1 0) 62).toNat) + 1))) else (if (Go.bits .and .u64 (IntKind.u64.wrap (a0)) (IntKind.u64.wrap ((IntKind.u64.wrap (2 ^ (mn (mx a1 0) 62).toNat)) - 1))) = (IntKind.u64.wrap (2 ^ ((mn (mx a1 0) 62) - 1).toNat)) then (if (Go.bits .and .i64 (a0 / 2 ^ (mn (mx a1 0) 62).toNat) 1) = 1 then (some (wrap64 ((a0 / 2 ^ (mn (mx a1 0) 62).toNat) + 1))) else (some (a0 / 2 ^ (mn (mx a1 0) 62).toNat))) else (some (a0 / 2 ^ (mn (mx a1 0) 62).toNat)))) else (none)) else (some (a0 / 2 ^ (mn (mx a1 0) 62).toNat))
theorem iH.calls (a0 : Int) (a1 : Int) (r : Int) (w : World) (h : iH.f a0 a1 = some r) :
 Calls Try.prog 84 #[.int .i64 a0, .int .i64 a1] w fun e w' => e = .returned (.int .i64 r) ∧ Below w.heap.size w w' := by
 have HB := aj.mk (Below.refl w.heap.size w)
 have H : (if (mn (mx a1 0) 62) > 0 then (if 0 ≤ ((mn (mx a1 0) 62) - 1) then (if (Go.bits .and .u64 (IntKind.u64.wrap (a0)) (IntKind.u64.wrap ((IntKind.u64.wrap (2 ^ (mn (mx a1 0) 62).toNat)) - 1))) > (IntKind.u64.wrap (2 ^ ((mn (mx a1 0) 62) - 1).toNat)) then (some (wrap64 ((a0 / 2 ^ (mn (mx a1 0) 62).toNat) + 1))) else (if (Go.bits .and .u64 (IntKind.u64.wrap (a0)) (IntKind.u64.wrap ((IntKind.u64.wrap (2 ^ (mn (mx a1 0) 62).toNat)) - 1))) = (IntKind.u64.wrap (2 ^ ((mn (mx a1 0) 62) - 1).toNat)) then (if (Go.bits .and .i64 (a0 / 2 ^ (mn (mx a1 0) 62).toNat) 1) = 1 then (some (wrap64 ((a0 / 2 ^ (mn (mx a1 0) 62).toNat) + 1))) else (some (a0 / 2 ^ (mn (mx a1 0) 62).toNat))) else (some (a0 / 2 ^ (mn (mx a1 0) 62).toNat)))) else (none)) else (some (a0 / 2 ^ (mn (mx a1 0) 62).toNat))) = some r := h
 clear h
 obtain ⟨EY, yS⟩ : ∃ j_ : Int, (mx a1 0) = j_ := ⟨_, rfl⟩
 replace H : (if (mn (EY) 62) > 0 then (if 0 ≤ ((mn (EY) 62) - 1) then (if (Go.bits .and .u64 (IntKind.u64.wrap (a0)) (IntKind.u64.wrap ((IntKind.u64.wrap (2 ^ (mn (EY) 62).toNat)) - 1))) > (IntKind.u64.wrap (2 ^ ((mn (EY) 62) - 1).toNat)) then (some (wrap64 ((a0 / 2 ^ (mn (EY) 62).toNat) + 1))) else (if (Go.bits .and .u64 (IntKind.u64.wrap (a0)) (IntKind.u64.wrap ((IntKind.u64.wrap (2 ^ (mn (EY) 62).toNat)) - 1))) = (IntKind.u64.wrap (2 ^ ((mn (EY) 62) - 1).toNat)) then (if (Go.bits .and .i64 (a0 / 2 ^ (mn (EY) 62).toNat) 1) = 1 then (some (wrap64 ((a0 / 2 ^ (mn (EY) 62).toNat) + 1))) else (some (a0 / 2 ^ (mn (EY) 62).toNat))) else (some (a0 / 2 ^ (mn (EY) 62).toNat)))) else (none)) else (some (a0 / 2 ^ (mn (EY) 62).toNat))) = some r := by first | (rw [yS] at H; exact H) | (simp only [yS] at H ⊢; exact H)
 (try (have ajp : 0 ≤ EY := by (rw [← yS]; unfold mx; (repeat' split) <;> omega)))
 (try (have ajo : 0 ≤ EY := by omega))
 have abU : (if a1 < 0 then 0 else a1) = EY := yS
 obtain ⟨uJ, J7⟩ : ∃ j_ : Int, (mn (EY) 62) = j_ := ⟨_, rfl⟩
 replace H : (if (uJ) > 0 then (if 0 ≤ ((uJ) - 1) then (if (Go.bits .and .u64 (IntKind.u64.wrap (a0)) (IntKind.u64.wrap ((IntKind.u64.wrap (2 ^ (uJ).toNat)) - 1))) > (IntKind.u64.wrap (2 ^ ((uJ) - 1).toNat)) then (some (wrap64 ((a0 / 2 ^ (uJ).toNat) + 1))) else (if (Go.bits .and .u64 (IntKind.u64.wrap (a0)) (IntKind.u64.wrap ((IntKind.u64.wrap (2 ^ (uJ).toNat)) - 1))) = (IntKind.u64.wrap (2 ^ ((uJ) - 1).toNat)) then (if (Go.bits .and .i64 (a0 / 2 ^ (uJ).toNat) 1) = 1 then (some (wrap64 ((a0 / 2 ^ (uJ).toNat) + 1))) else (some (a0 / 2 ^ (uJ).toNat))) else (some (a0 / 2 ^ (uJ).toNat)))) else (none)) else (some (a0 / 2 ^ (uJ).toNat))) = some r := by first | (rw [J7] at H; exact H) | (simp only [J7] at H ⊢; exact H)
 have abT : (if 62 < (EY) then 62 else (EY)) = uJ := J7
 by_cases c5 : (uJ) > 0
 · rw [if_pos c5] at H
   have BM : decide (0 < (uJ)) = true := decide_eq_true c5
   clear c5
   obtain ⟨zN, Rh⟩ : ∃ j_ : Int, ((uJ) - 1) = j_ := ⟨_, rfl⟩
   have ajn : zN ≤ 61 := by
    have h := abT
    split at h <;> omega
   replace H : (if 0 ≤ (zN) then (if (Go.bits .and .u64 (IntKind.u64.wrap (a0)) (IntKind.u64.wrap ((IntKind.u64.wrap (2 ^ (uJ).toNat)) - 1))) > (IntKind.u64.wrap (2 ^ (zN).toNat)) then (some (wrap64 ((a0 / 2 ^ (uJ).toNat) + 1))) else (if (Go.bits .and .u64 (IntKind.u64.wrap (a0)) (IntKind.u64.wrap ((IntKind.u64.wrap (2 ^ (uJ).toNat)) - 1))) = (IntKind.u64.wrap (2 ^ (zN).toNat)) then (if (Go.bits .and .i64 (a0 / 2 ^ (uJ).toNat) 1) = 1 then (some (wrap64 ((a0 / 2 ^ (uJ).toNat) + 1))) else (some (a0 / 2 ^ (uJ).toNat))) else (some (a0 / 2 ^ (uJ).toNat)))) else (none)) = some r := by first | (rw [Rh] at H; exact H) | (simp only [Rh] at H ⊢; exact H)
   by_cases c7 : 0 ≤ (zN)
   · rw [if_pos c7] at H
     have vS := eq_true c7
     have Og : decide (0 ≤ (zN)) = true := decide_eq_true c7
     clear c7
     by_cases c8 : (Go.bits .and .u64 (IntKind.u64.wrap (a0)) (IntKind.u64.wrap ((IntKind.u64.wrap (2 ^ (uJ).toNat)) - 1))) > (IntKind.u64.wrap (2 ^ (zN).toNat))
     · rw [if_pos c8] at H
       have zW : decide ((IntKind.u64.wrap (2 ^ (zN).toNat)) < (Go.bits .and .u64 (IntKind.u64.wrap (a0)) (IntKind.u64.wrap ((IntKind.u64.wrap (2 ^ (uJ).toNat)) - 1)))) = true := decide_eq_true c8
       rw [show zN.toNat = min zN.toNat 64 by omega] at zW
       clear c8
       obtain rfl := Option.some.inj H
       go_enter Try.func84, Try.ntmps84
       go_wp2
       go_ret
       exact ⟨by first | rfl | (simp [aN, aK] <;> rfl) | (simp only [← yS, ← J7, ← Rh]; first | rfl | (simp [aN, aK] <;> rfl)) | (simp [*, aN, aK] <;> rfl), by repeat (first | (with_reducible first | exact HB.out | apply ak | apply ah | apply au) | exact HB.out)⟩
     · rw [if_neg c8] at H
       have zW : decide ((IntKind.u64.wrap (2 ^ (zN).toNat)) < (Go.bits .and .u64 (IntKind.u64.wrap (a0)) (IntKind.u64.wrap ((IntKind.u64.wrap (2 ^ (uJ).toNat)) - 1)))) = false := decide_eq_false c8
       rw [show zN.toNat = min zN.toNat 64 by omega] at zW
       clear c8
       have KL := eq_true (of_decide_eq_true (by first | (with_reducible assumption) | assumption) : 0 ≤ (zN))
       by_cases c10 : (Go.bits .and .u64 (IntKind.u64.wrap (a0)) (IntKind.u64.wrap ((IntKind.u64.wrap (2 ^ (uJ).toNat)) - 1))) = (IntKind.u64.wrap (2 ^ (zN).toNat))
       · rw [if_pos c10] at H
         have vV : ((Go.bits .and .u64 (IntKind.u64.wrap (a0)) (IntKind.u64.wrap ((IntKind.u64.wrap (2 ^ (uJ).toNat)) - 1))) == (IntKind.u64.wrap (2 ^ (zN).toNat))) = true := beq_iff_eq.mpr c10
         rw [show zN.toNat = min zN.toNat 64 by omega] at vV
         have Vk : ((Go.bits .and .u64 (IntKind.u64.wrap (a0)) (IntKind.u64.wrap ((IntKind.u64.wrap (2 ^ (uJ).toNat)) - 1))) != (IntKind.u64.wrap (2 ^ (zN).toNat))) = false := bne_eq_false_iff_eq.mpr c10
         rw [show zN.toNat = min zN.toNat 64 by omega] at Vk
         clear c10
         by_cases c11 : (Go.bits .and .i64 (a0 / 2 ^ (uJ).toNat) 1) = 1
         · rw [if_pos c11] at H
           have Ey : ((Go.bits .and .i64 (a0 / 2 ^ (uJ).toNat) 1) == 1) = true := beq_iff_eq.mpr c11
           have acu : ((Go.bits .and .i64 (a0 / 2 ^ (uJ).toNat) 1) != 1) = false := bne_eq_false_iff_eq.mpr c11
           clear c11
           obtain rfl := Option.some.inj H
           go_enter Try.func84, Try.ntmps84
           go_wp2
           go_ret
           exact ⟨by first | rfl | (simp [aN, aK] <;> rfl) | (simp only [← yS, ← J7, ← Rh]; first | rfl | (simp [aN, aK] <;> rfl)) | (simp [*, aN, aK] <;> rfl), by repeat (first | (with_reducible first | exact HB.out | apply ak | apply ah | apply au) | exact HB.out)⟩
         · rw [if_neg c11] at H
           have Ey : ((Go.bits .and .i64 (a0 / 2 ^ (uJ).toNat) 1) == 1) = false := beq_eq_false_iff_ne.mpr c11
           have acu : ((Go.bits .and .i64 (a0 / 2 ^ (uJ).toNat) 1) != 1) = true := bne_iff_ne.mpr c11
           obtain rfl := Option.some.inj H
           go_enter Try.func84, Try.ntmps84
           go_wp2
           go_ret
           exact ⟨by first | rfl | (simp [aN, aK] <;> rfl) | (simp only [← yS, ← J7, ← Rh]; first | rfl | (simp [aN, aK] <;> rfl)) | (simp [*, aN, aK] <;> rfl), by repeat (first | (with_reducible first | exact HB.out | apply ak | apply ah | apply au) | exact HB.out)⟩
       · rw [if_neg c10] at H
         have vV : ((Go.bits .and .u64 (IntKind.u64.wrap (a0)) (IntKind.u64.wrap ((IntKind.u64.wrap (2 ^ (uJ).toNat)) - 1))) == (IntKind.u64.wrap (2 ^ (zN).toNat))) = false := beq_eq_false_iff_ne.mpr c10
         rw [show zN.toNat = min zN.toNat 64 by omega] at vV
         have Vk : ((Go.bits .and .u64 (IntKind.u64.wrap (a0)) (IntKind.u64.wrap ((IntKind.u64.wrap (2 ^ (uJ).toNat)) - 1))) != (IntKind.u64.wrap (2 ^ (zN).toNat))) = true := bne_iff_ne.mpr c10
         rw [show zN.toNat = min zN.toNat 64 by omega] at Vk
         obtain rfl := Option.some.inj H
         go_enter Try.func84, Try.ntmps84
         go_wp2
         go_ret
         exact ⟨by first | rfl | (simp [aN, aK] <;> rfl) | (simp only [← yS, ← J7, ← Rh]; first | rfl | (simp [aN, aK] <;> rfl)) | (simp [*, aN, aK] <;> rfl), by repeat (first | (with_reducible first | exact HB.out | apply ak | apply ah | apply au) | exact HB.out)⟩
   · rw [if_neg c7] at H
     exact absurd H (by simp)
 · rw [if_neg c5] at H
   have BM : decide (0 < (uJ)) = false := decide_eq_false c5
   clear c5
   obtain rfl := Option.some.inj H
   go_enter Try.func84, Try.ntmps84
   go_wp2
   go_ret
   exact ⟨by first | rfl | (simp [aN, aK] <;> rfl) | (simp only [← yS, ← J7]; first | rfl | (simp [aN, aK] <;> rfl)) | (simp [*, aN, aK] <;> rfl), by repeat (first | (with_reducible first | exact HB.out | apply ak | apply ah | apply au) | exact HB.out)⟩
def dn.l0 : Nat → Bool → Int → Int → Int → Int → Option (Int × Bool)
 | 0, _, _, _, _, _ => none
 | k + 1, x4, x5, x6, x7, x8 => if x8 > 0 then ((bits_Mul64.f (Go.bits .or .u64 x7 x8) (Go.bits .or .u64 x7 x8)).bind fun Vl => (if Vl.1 < x5 then (dn.l0 k x4 x5 x6 (Go.bits .or .u64 x7 x8) (x8 / 2)) else (if Vl.1 = x5 then (if Vl.2 ≤ x6 then (dn.l0 k x4 x5 x6 (Go.bits .or .u64 x7 x8) (x8 / 2)) else (dn.l0 k x4 x5 x6 x7 (x8 / 2))) else (dn.l0 k x4 x5 x6 x7 (x8 / 2))))) else (some (wrap64 (x7), x4))
def dn.f (k : Nat) (a0 : Int) : Option (Int × Bool) := (cZ.f a0).bind fun y7 => (if y7.1 < 0 then (some (0, true)) else (dn.l0 k y7.2 ((IntKind.u64.wrap (y7.1)) / 1099511627776) (IntKind.u64.wrap ((IntKind.u64.wrap (y7.1)) * 16777216)) 0 34359738368))
theorem dn.calls (k : Nat) (a0 : Int) (r1 : Int) (r2 : Bool) (w : World) (h : dn.f k a0 = some (r1, r2)) :
 Calls Try.prog 92 #[.int .i64 a0] w fun e w' => e = .returned (.tuple #[.int .i64 r1, .bool r2]) ∧ Below w.heap.size w w' := by
 have HB := aj.mk (Below.refl w.heap.size w)
 have H : ((cZ.f a0).bind fun y7 => (if y7.1 < 0 then (some (0, true)) else (dn.l0 k y7.2 ((IntKind.u64.wrap (y7.1)) / 1099511627776) (IntKind.u64.wrap ((IntKind.u64.wrap (y7.1)) * 16777216)) 0 34359738368))) = some (r1, r2) := h
 clear h
 replace H := Option.bind_eq_some_iff.mp H
 obtain ⟨⟨t148, t149⟩, YU, H⟩ := H
 replace H : (if t148 < 0 then (some (0, true)) else (dn.l0 k t149 ((IntKind.u64.wrap (t148)) / 1099511627776) (IntKind.u64.wrap ((IntKind.u64.wrap (t148)) * 16777216)) 0 34359738368)) = some (r1, r2) := H
 have A2 := aj.mk YU
 clear YU
 by_cases c3 : t148 < 0
 · rw [if_pos c3] at H
   have Vg : decide (t148 < 0) = true := decide_eq_true c3
   clear c3
   simp only [Option.some.injEq, Prod.mk.injEq] at H
   obtain ⟨rfl, rfl⟩ := H
   go_enter Try.func92, Try.ntmps92
   go_wp2_with (first | ((with_reducible refine aH (f := 86) rfl ?_); refine bg (some 13) rfl rfl Try.func86 (by kernel_rfl) rfl #[.int .i64 a0] rfl (by (try simp only [List.map_toArray, List.map_cons, List.map_nil]); first | done | rfl | (simp only [List.length_drop, List.length_take]; rfl)) ?_; (with_reducible refine (cZ.calls a0 t148 t149 _ A2.out).mono ?_); rintro e w4 ⟨rfl, hb⟩; refine ⟨_, rfl, ?_⟩; have bF := aj.mk (aP (by repeat (first | (with_reducible first | exact HB.out | apply ak | apply ah | apply au) | exact HB.out)) hb); clear HB; have HB := bF; clear bF; (try clear hb); (try clear hb2); (try clear hk); (try clear hi)))
   go_ret2
   exact ⟨by first | rfl | (simp [aN, aK] <;> rfl) | (simp [*, aN, aK] <;> rfl), by repeat (first | (with_reducible first | exact HB.out | apply ak | apply ah | apply au) | exact HB.out)⟩
 · rw [if_neg c3] at H
   have Vg : decide (t148 < 0) = false := decide_eq_false c3
   clear c3
   have H' := aj.mk H
   clear H
   go_enter Try.func92, Try.ntmps92
   go_wp2_with (first | ((with_reducible refine aH (f := 86) rfl ?_); refine bg (some 13) rfl rfl Try.func86 (by kernel_rfl) rfl #[.int .i64 a0] rfl (by (try simp only [List.map_toArray, List.map_cons, List.map_nil]); first | done | rfl | (simp only [List.length_drop, List.length_take]; rfl)) ?_; (with_reducible refine (cZ.calls a0 t148 t149 _ A2.out).mono ?_); rintro e w5 ⟨rfl, hb⟩; refine ⟨_, rfl, ?_⟩; have bF := aj.mk (aP (by repeat (first | (with_reducible first | exact HB.out | apply ak | apply ah | apply au) | exact HB.out)) hb); clear HB; have HB := bF; clear bF; (try clear hb); (try clear hb2); (try clear hk); (try clear hi)))
   go_loopg [7, 8] k (fun kq v7 v8 w' => ∃ (nY : Int) (kR : Int), v7 = .int .u64 nY ∧ v8 = .int .u64 kR ∧ aj (dn.l0 kq t149 ((IntKind.u64.wrap (t148)) / 1099511627776) (IntKind.u64.wrap ((IntKind.u64.wrap (t148)) * 16777216)) nY kR = some (r1, r2)) ∧ aj (kq ≤ k) ∧ aj (Below w.heap.size w w'))
   case atStart => exact ⟨(0), (34359738368), (by first | rfl | (simp; done) | (simp [*]; done)), (by first | rfl | (simp; done) | (simp [*]; done)), H', ⟨Nat.le_refl _⟩, ⟨by repeat (first | (with_reducible first | exact HB.out | apply ak | apply ah | apply au) | exact HB.out)⟩⟩
   case round =>
    clear H'
    try clear p2
    try clear c3
    try clear Vg
    obtain ⟨nY, kR, rfl, rfl, HA, zy, HB⟩ := hrel
    cases gk with
    | zero => exact absurd HA.out (by simp [dn.l0])
    | succ k1 =>
      have H := HA.out
      clear HA
      simp only [dn.l0] at H
      by_cases c6 : kR > 0
      · rw [if_pos c6] at H
        have qC : decide (0 < kR) = true := decide_eq_true c6
        clear c6
        replace H := Option.bind_eq_some_iff.mp H
        obtain ⟨⟨t150, t151⟩, YR, H⟩ := H
        replace H : (if t150 < ((IntKind.u64.wrap (t148)) / 1099511627776) then (dn.l0 k1 t149 ((IntKind.u64.wrap (t148)) / 1099511627776) (IntKind.u64.wrap ((IntKind.u64.wrap (t148)) * 16777216)) (Go.bits .or .u64 nY kR) (kR / 2)) else (if t150 = ((IntKind.u64.wrap (t148)) / 1099511627776) then (if t151 ≤ (IntKind.u64.wrap ((IntKind.u64.wrap (t148)) * 16777216)) then (dn.l0 k1 t149 ((IntKind.u64.wrap (t148)) / 1099511627776) (IntKind.u64.wrap ((IntKind.u64.wrap (t148)) * 16777216)) (Go.bits .or .u64 nY kR) (kR / 2)) else (dn.l0 k1 t149 ((IntKind.u64.wrap (t148)) / 1099511627776) (IntKind.u64.wrap ((IntKind.u64.wrap (t148)) * 16777216)) nY (kR / 2))) else (dn.l0 k1 t149 ((IntKind.u64.wrap (t148)) / 1099511627776) (IntKind.u64.wrap ((IntKind.u64.wrap (t148)) * 16777216)) nY (kR / 2)))) = some (r1, r2) := H
        have A7 := aj.mk YR
        clear YR
        by_cases c8 : t150 < ((IntKind.u64.wrap (t148)) / 1099511627776)
        · rw [if_pos c8] at H
          have zW : decide (t150 < ((IntKind.u64.wrap (t148)) / 1099511627776)) = true := decide_eq_true c8
          clear c8
          have H' := aj.mk H
          clear H
          go_wp2_with (first | ((with_reducible refine aH (f := 96) rfl ?_); refine bg (some 35) rfl rfl Try.func96 (by kernel_rfl) rfl #[.int .u64 (Go.bits .or .u64 nY kR), .int .u64 (Go.bits .or .u64 nY kR)] rfl (by (try simp only [List.map_toArray, List.map_cons, List.map_nil]); first | done | rfl | (simp only [List.length_drop, List.length_take]; rfl)) ?_; (with_reducible refine (bits_Mul64.calls (Go.bits .or .u64 nY kR) (Go.bits .or .u64 nY kR) t150 t151 _ A7.out).mono ?_); rintro e w' ⟨rfl, ⟨nd, rfl⟩⟩; refine ⟨_, rfl, ?_⟩))
          go_roundg k1
          case measure => have := zy.out; omega
          case rel => exact ⟨(Go.bits .or .u64 nY kR), (kR / 2), (by first | rfl | (simp; done) | (simp [*]; done)), (by first | rfl | (simp; done) | (simp [*]; done)), H', ⟨by have := zy.out; omega⟩, ⟨by repeat (first | (with_reducible first | exact HB.out | apply ak | apply ah | apply au) | exact HB.out)⟩⟩
        · rw [if_neg c8] at H
          have zW : decide (t150 < ((IntKind.u64.wrap (t148)) / 1099511627776)) = false := decide_eq_false c8
          clear c8
          by_cases c9 : t150 = ((IntKind.u64.wrap (t148)) / 1099511627776)
          · rw [if_pos c9] at H
            have KL : (t150 == ((IntKind.u64.wrap (t148)) / 1099511627776)) = true := beq_iff_eq.mpr c9
            have Oe : (t150 != ((IntKind.u64.wrap (t148)) / 1099511627776)) = false := bne_eq_false_iff_eq.mpr c9
            clear c9
            by_cases c10 : t151 ≤ (IntKind.u64.wrap ((IntKind.u64.wrap (t148)) * 16777216))
            · rw [if_pos c10] at H
              have vV : decide (t151 ≤ (IntKind.u64.wrap ((IntKind.u64.wrap (t148)) * 16777216))) = true := decide_eq_true c10
              clear c10
              have H' := aj.mk H
              clear H
              go_wp2_with (first | ((with_reducible refine aH (f := 96) rfl ?_); refine bg (some 35) rfl rfl Try.func96 (by kernel_rfl) rfl #[.int .u64 (Go.bits .or .u64 nY kR), .int .u64 (Go.bits .or .u64 nY kR)] rfl (by (try simp only [List.map_toArray, List.map_cons, List.map_nil]); first | done | rfl | (simp only [List.length_drop, List.length_take]; rfl)) ?_; (with_reducible refine (bits_Mul64.calls (Go.bits .or .u64 nY kR) (Go.bits .or .u64 nY kR) t150 t151 _ A7.out).mono ?_); rintro e w' ⟨rfl, ⟨nd, rfl⟩⟩; refine ⟨_, rfl, ?_⟩))
              go_roundg k1
              case measure => have := zy.out; omega
              case rel => exact ⟨(Go.bits .or .u64 nY kR), (kR / 2), (by first | rfl | (simp; done) | (simp [*]; done)), (by first | rfl | (simp; done) | (simp [*]; done)), H', ⟨by have := zy.out; omega⟩, ⟨by repeat (first | (with_reducible first | exact HB.out | apply ak | apply ah | apply au) | exact HB.out)⟩⟩
            · rw [if_neg c10] at H
              have vV : decide (t151 ≤ (IntKind.u64.wrap ((IntKind.u64.wrap (t148)) * 16777216))) = false := decide_eq_false c10
              clear c10
              have H' := aj.mk H
              clear H
              go_wp2_with (first | ((with_reducible refine aH (f := 96) rfl ?_); refine bg (some 35) rfl rfl Try.func96 (by kernel_rfl) rfl #[.int .u64 (Go.bits .or .u64 nY kR), .int .u64 (Go.bits .or .u64 nY kR)] rfl (by (try simp only [List.map_toArray, List.map_cons, List.map_nil]); first | done | rfl | (simp only [List.length_drop, List.length_take]; rfl)) ?_; (with_reducible refine (bits_Mul64.calls (Go.bits .or .u64 nY kR) (Go.bits .or .u64 nY kR) t150 t151 _ A7.out).mono ?_); rintro e w' ⟨rfl, ⟨nd, rfl⟩⟩; refine ⟨_, rfl, ?_⟩))
              go_roundg k1
              case measure => have := zy.out; omega
              case rel => exact ⟨(nY), (kR / 2), (by first | rfl | (simp; done) | (simp [*]; done)), (by first | rfl | (simp; done) | (simp [*]; done)), H', ⟨by have := zy.out; omega⟩, ⟨by repeat (first | (with_reducible first | exact HB.out | apply ak | apply ah | apply au) | exact HB.out)⟩⟩
          · rw [if_neg c9] at H
            have KL : (t150 == ((IntKind.u64.wrap (t148)) / 1099511627776)) = false := beq_eq_false_iff_ne.mpr c9
            have Oe : (t150 != ((IntKind.u64.wrap (t148)) / 1099511627776)) = true := bne_iff_ne.mpr c9
            have H' := aj.mk H
            clear H
            go_wp2_with (first | ((with_reducible refine aH (f := 96) rfl ?_); refine bg (some 35) rfl rfl Try.func96 (by kernel_rfl) rfl #[.int .u64 (Go.bits .or .u64 nY kR), .int .u64 (Go.bits .or .u64 nY kR)] rfl (by (try simp only [List.map_toArray, List.map_cons, List.map_nil]); first | done | rfl | (simp only [List.length_drop, List.length_take]; rfl)) ?_; (with_reducible refine (bits_Mul64.calls (Go.bits .or .u64 nY kR) (Go.bits .or .u64 nY kR) t150 t151 _ A7.out).mono ?_); rintro e w' ⟨rfl, ⟨nd, rfl⟩⟩; refine ⟨_, rfl, ?_⟩))
            go_roundg k1
            case measure => have := zy.out; omega
            case rel => exact ⟨(nY), (kR / 2), (by first | rfl | (simp; done) | (simp [*]; done)), (by first | rfl | (simp; done) | (simp [*]; done)), H', ⟨by have := zy.out; omega⟩, ⟨by repeat (first | (with_reducible first | exact HB.out | apply ak | apply ah | apply au) | exact HB.out)⟩⟩
      · rw [if_neg c6] at H
        have qC : decide (0 < kR) = false := decide_eq_false c6
        clear c6
        simp only [Option.some.injEq, Prod.mk.injEq] at H
        obtain ⟨rfl, rfl⟩ := H
        go_wp2
        go_ret2
        exact ⟨by first | rfl | (simp [aN, aK] <;> rfl) | (simp [*, aN, aK] <;> rfl), by repeat (first | (with_reducible first | exact HB.out | apply ak | apply ah | apply au) | exact HB.out)⟩
def dX.j0 : Nat → Int → Bool → Option (Int)
 | 0, _, _ => none
 | k + 1, x2, x7 => if x7 = true then (some 9) else (if x2 ≤ 0 then (some 1) else (some 0))
def dX.f (k : Nat) (aT : Int) (aZ : Int) (aY : List Int) (b_ : Int) (dw : Int) (bT : List Int) (bH : Int) (bI : Int) (bu : List Int) (a2 : Int) : Option (Int) := if bH = 1 then (dX.j0 k a2 (bI != aT)) else (dX.j0 k a2 true)
theorem dX.calls (k : Nat) (aT : Int) (aZ : Int) (bK : Option Addr) (bJ : Nat) (aY : List Int) (b_ : Int) (dw : Int) (gW : Option Addr) (gu : Nat) (bT : List Int) (bH : Int) (bI : Int) (eG : Option Addr) (eH : Nat) (bu : List Int) (a2 : Int) (r : Int) (w : World) (iV : Kd.C (Kd.int .i64) w bK aY.length aY) (jy : aY.length ≤ bJ) (AU : Kd.C (Kd.int .i64) w gW bT.length bT) (AV : bT.length ≤ gu) (m_ : Kd.C (Kd.int .i64) w eG bu.length bu) (nS : bu.length ≤ eH) (h : dX.f k aT aZ aY b_ dw bT bH bI bu a2 = some r) :
 Calls Try.prog 117 #[.agg #[.int .i64 aT, .int .i64 aZ, .slice bK aY.length bJ, .int .i64 b_, .int .i64 dw, .slice gW bT.length gu], .agg #[.int .i64 bH, .int .i64 bI, .slice eG bu.length eH], .int .i64 a2] w fun e w' => e = .returned (.int .i64 r) ∧ Below w.heap.size w w' := by
 have abH := Try.underlying33
 have Ig := Try.underlying31
 have mG := aj.mk iV
 have oV := aj.mk jy
 clear iV jy
 have uG := aj.mk AU
 have GK := aj.mk AV
 clear AU AV
 have tq := aj.mk m_
 have wz := aj.mk nS
 clear m_ nS
 have HB := aj.mk (Below.refl w.heap.size w)
 have H : (if bH = 1 then (dX.j0 k a2 (bI != aT)) else (dX.j0 k a2 true)) = some r := h
 clear h
 have HC4 := aj.mk H
 clear H
 go_enter Try.func117, Try.ntmps117
 go_upto_region 1 with (first | ((with_reducible refine dH (N := 3) rfl ?_); refine cu ?hg (N := 3) ?hd (cs := #[.int .i64 aT, .int .i64 aZ, .slice bK aY.length bJ, .int .i64 b_, .int .i64 dw, .slice gW bT.length gu]) (t := 33) ?hr ?_; (case hd => rfl); (case hg => rfl); (case hr => first | (go_simp; done) | (go_simp; rfl)); intro ry hg w5 hbox hb; have bF := aj.mk (aP (by repeat (first | (with_reducible first | exact HB.out | apply ak | apply ah | apply au) | exact HB.out)) hb); have dS := aj.mk (hbox); have eu := aj.mk ((by rw [hg]; exact (bf (by repeat (first | (with_reducible first | exact HB.out | apply ak | apply ah | apply au) | exact HB.out))) : w.heap.size ≤ ry)); have fM := aj.mk ((by rw [hg]; exact (bf (by repeat (first | (with_reducible first | exact HB.out | apply ak | apply ah | apply au) | exact HB.out))) : w.heap.size ≤ ry)); clear HB; have HB := bF; have mM := dS; have akK := eu; have Bz := fM; clear bF dS eu fM; clear hb hbox hg) | ((with_reducible refine dH (N := 4) rfl ?_); refine cu ?hg (N := 4) ?hd (cs := #[.int .i64 bH, .int .i64 bI, .slice eG bu.length eH]) (t := 31) ?hr ?_; (case hd => rfl); (case hg => rfl); (case hr => first | (go_simp; done) | (go_simp; rfl)); intro vP hg w6 hbox hb; have bF := aj.mk (bz (g := ry) (o := .cells #[.int .i64 aT, .int .i64 aZ, .slice bK aY.length bJ, .int .i64 b_, .int .i64 dw, .slice gW bT.length gu] 33 (0, 0)) (by (with_reducible repeat (first | refine aB ?_ _ | refine aF ?_ | refine aC ?_ _)); exact mM.out) hb); have dS := aj.mk (aP (by repeat (first | (with_reducible first | exact HB.out | apply ak | apply ah | apply au | refine aA ?_ Bz.out) | exact HB.out)) hb); have eu := aj.mk (hbox); have fM := aj.mk ((by rw [hg]; exact (bf (by repeat (first | (with_reducible first | exact HB.out | apply ak | apply ah | apply au | refine aA ?_ Bz.out) | exact HB.out))) : w.heap.size ≤ vP)); have jR := aj.mk ((by rw [hg]; exact (bf (by repeat (first | (with_reducible first | exact HB.out | apply ak | apply ah | apply au | refine aA ?_ Bz.out) | exact HB.out))) : w.heap.size ≤ vP)); have kD := aj.mk ((by rw [hg]; exact Nat.ne_of_lt (dY (g := ry) (o := .cells #[.int .i64 aT, .int .i64 aZ, .slice bK aY.length bJ, .int .i64 b_, .int .i64 dw, .slice gW bT.length gu] 33 (0, 0)) (by (with_reducible repeat (first | refine aB ?_ _ | refine aF ?_ | refine aC ?_ _)); exact mM.out)) : ry ≠ vP)); have kW := aj.mk ((by rw [hg]; exact Nat.ne_of_gt (dY (g := ry) (o := .cells #[.int .i64 aT, .int .i64 aZ, .slice bK aY.length bJ, .int .i64 b_, .int .i64 dw, .slice gW bT.length gu] 33 (0, 0)) (by (with_reducible repeat (first | refine aB ?_ _ | refine aF ?_ | refine aC ?_ _)); exact mM.out)) : vP ≠ ry)); clear mM; clear HB; have mM := bF; have HB := dS; have qI := eu; have akJ := fM; have Ld := jR; have Gx := kD; have Gw := kW; clear bF dS eu fM jR kD kW; clear hb hbox hg))
 (try simp only [Act.put, List.setIfInBounds_toArray, List.set_cons_zero, List.set_cons_succ])
 go_cut [7] (fun v7 wc => ∃ (kq : Nat) (rH : Bool), v7 = .bool rH ∧ aj (dX.j0 kq a2 rH = some r) ∧ aj (kq ≤ k) ∧ aj (wc.heap[ry]? = some (.cells #[.int .i64 aT, .int .i64 aZ, (.slice bK aY.length bJ), .int .i64 b_, .int .i64 dw, (.slice gW bT.length gu)] 33 (0, 0))) ∧ aj (wc.heap[vP]? = some (.cells #[.int .i64 bH, .int .i64 bI, (.slice eG bu.length eH)] 31 (0, 0))) ∧ aj (Below w.heap.size w wc))
 case first =>
  have H := HC4.out
  clear HC4
  by_cases c7 : bH = 1
  · rw [if_pos c7] at H
    have vS : (bH == 1) = true := beq_iff_eq.mpr c7
    have Og : (bH != 1) = false := bne_eq_false_iff_eq.mpr c7
    clear c7
    (first | rw [vS] | (simp only [dA, dB]; rw [vS]) | skip)
    have H' := aj.mk H
    clear H
    have abP := Gw.out
    have abM := Gx.out
    have um : w6.cell? ⟨vP, 0, none⟩ = some (.int .i64 bH) := (az qI.out 0).trans rfl
    have vM : w6.cell? ⟨vP, 1, none⟩ = some (.int .i64 bI) := (az qI.out 1).trans rfl
    have vK : w6.cell? ⟨vP, 2, none⟩ = some (.slice eG bu.length eH) := (az qI.out 2).trans rfl
    have uk := ay qI.out 0
    have vH := ay qI.out 1
    have vG := ay qI.out 2
    have nH : w6.cell? ⟨ry, 0, none⟩ = some (.int .i64 aT) := (az mM.out 0).trans rfl
    have nG : w6.cell? ⟨ry, 1, none⟩ = some (.int .i64 aZ) := (az mM.out 1).trans rfl
    have nD : w6.cell? ⟨ry, 2, none⟩ = some (.slice bK aY.length bJ) := (az mM.out 2).trans rfl
    have ru : w6.cell? ⟨ry, 3, none⟩ = some (.int .i64 b_) := (az mM.out 3).trans rfl
    have qZ : w6.cell? ⟨ry, 4, none⟩ = some (.int .i64 dw) := (az mM.out 4).trans rfl
    have qY : w6.cell? ⟨ry, 5, none⟩ = some (.slice gW bT.length gu) := (az mM.out 5).trans rfl
    have nC := ay mM.out 0
    have ni := ay mM.out 1
    have ng := ay mM.out 2
    have qX := ay mM.out 3
    have qW := ay mM.out 4
    have qV := ay mM.out 5
    go_wp2
    go_meet
    case rel => exact ⟨_, ((bI != aT)), (by first | rfl | (simp; done) | (simp [*]; done)), H', ⟨by first | omega | exact Nat.le_refl _⟩, ⟨by (with_reducible repeat (first | refine aB ?_ _ | refine aF ?_ | refine aC ?_ _)); exact mM.out⟩, ⟨by (with_reducible repeat (first | refine aB ?_ _ | refine aF ?_ | refine aC ?_ _)); exact qI.out⟩, ⟨by repeat (first | (with_reducible first | exact HB.out | apply ak | apply ah | apply au | refine aA ?_ Bz.out | refine aA ?_ Ld.out) | exact HB.out)⟩⟩
  · rw [if_neg c7] at H
    have vS : (bH == 1) = false := beq_eq_false_iff_ne.mpr c7
    have Og : (bH != 1) = true := bne_iff_ne.mpr c7
    (first | rw [vS] | (simp only [dA, dB]; rw [vS]) | skip)
    have H' := aj.mk H
    clear H
    have Yu := Gw.out
    have Yr := Gx.out
    have pF : w6.cell? ⟨vP, 0, none⟩ = some (.int .i64 bH) := (az qI.out 0).trans rfl
    have pz : w6.cell? ⟨vP, 1, none⟩ = some (.int .i64 bI) := (az qI.out 1).trans rfl
    have pq : w6.cell? ⟨vP, 2, none⟩ = some (.slice eG bu.length eH) := (az qI.out 2).trans rfl
    have pg := ay qI.out 0
    have o_ := ay qI.out 1
    have o9 := ay qI.out 2
    go_wp2
    go_meet
    case rel => exact ⟨_, (true), (by first | rfl | (simp; done) | (simp [*]; done)), H', ⟨by first | omega | exact Nat.le_refl _⟩, ⟨by (with_reducible repeat (first | refine aB ?_ _ | refine aF ?_ | refine aC ?_ _)); exact mM.out⟩, ⟨by (with_reducible repeat (first | refine aB ?_ _ | refine aF ?_ | refine aC ?_ _)); exact qI.out⟩, ⟨by repeat (first | (with_reducible first | exact HB.out | apply ak | apply ah | apply au | refine aA ?_ Bz.out | refine aA ?_ Ld.out) | exact HB.out)⟩⟩
 case rest =>
  clear HC4
  try clear c1
  try clear p2
  try clear c7
  try clear vS
  try clear Og
  try clear c8
  try clear c11
  try clear nH
  try clear nG
  try clear nD
  try clear ru
  try clear qZ
  try clear qY
  try clear pF
  try clear pz
  try clear pq
  try clear um
  try clear vM
  try clear vK
  try clear nC
  try clear ni
  try clear ng
  try clear qX
  try clear qW
  try clear qV
  try clear pg
  try clear o_
  try clear o9
  try clear uk
  try clear vH
  try clear vG
  obtain ⟨kq, rH, rfl, HA, HJ3, mM, qI, HB⟩ := hcut
  cases kq with
  | zero => exact absurd HA.out (by simp [dX.j0])
  | succ kj3 =>
    have H := HA.out
    clear HA
    simp only [dX.j0] at H
    by_cases c13 : rH = true
    · subst c13
      rw [if_pos rfl] at H
      obtain rfl := Option.some.inj H
      go_wp2
      go_ret
      exact ⟨by first | rfl | (simp [aN, aK] <;> rfl) | (simp [*, aN, aK] <;> rfl), by repeat (first | (with_reducible first | exact HB.out | apply ak | apply ah | apply au | refine aA ?_ Bz.out | refine aA ?_ Ld.out) | exact HB.out)⟩
    · replace c13 := Bool.eq_false_iff.mpr c13
      subst c13
      have H1 : (if a2 ≤ 0 then (some 1) else (some 0)) = some r := by rw [if_neg (show ¬ (false = true) by decide)] at H; exact H
      clear H
      have H := H1
      clear H1
      by_cases c14 : a2 ≤ 0
      · rw [if_pos c14] at H
        have oP : decide (a2 ≤ 0) = true := decide_eq_true c14
        clear c14
        obtain rfl := Option.some.inj H
        go_wp2
        go_ret
        exact ⟨by first | rfl | (simp [aN, aK] <;> rfl) | (simp [*, aN, aK] <;> rfl), by repeat (first | (with_reducible first | exact HB.out | apply ak | apply ah | apply au | refine aA ?_ Bz.out | refine aA ?_ Ld.out) | exact HB.out)⟩
      · rw [if_neg c14] at H
        have oP : decide (a2 ≤ 0) = false := decide_eq_false c14
        clear c14
        obtain rfl := Option.some.inj H
        go_wp2
        go_ret
        exact ⟨by first | rfl | (simp [aN, aK] <;> rfl) | (simp [*, aN, aK] <;> rfl), by repeat (first | (with_reducible first | exact HB.out | apply ak | apply ah | apply au | refine aA ?_ Bz.out | refine aA ?_ Ld.out) | exact HB.out)⟩
def oO.f (aT : Int) (aZ : Int) (aY : List Int) : Option (Int × Int) := some (aT, aZ)
theorem oO.calls (aT : Int) (aZ : Int) (bK : Option Addr) (bJ : Nat) (aY : List Int) (r1 : Int) (r2 : Int) (w : World) (iV : Kd.C (Kd.int .i64) w bK aY.length aY) (jy : aY.length ≤ bJ) (h : oO.f aT aZ aY = some (r1, r2)) :
 Calls Try.prog 107 #[.agg #[.int .i64 aT, .int .i64 aZ, .slice bK aY.length bJ]] w fun e w' => e = .returned (.agg #[.int .i64 r1, .int .i64 r2]) ∧ Below w.heap.size w w' := by
 have Ig := Try.underlying31
 have ai1 := Try.underlying134
 have mG := aj.mk iV
 have oV := aj.mk jy
 clear iV jy
 have HB := aj.mk (Below.refl w.heap.size w)
 have H : (some (aT, aZ)) = some (r1, r2) := h
 clear h
 simp only [Option.some.injEq, Prod.mk.injEq] at H
 obtain ⟨rfl, rfl⟩ := H
 go_enter Try.func107, Try.ntmps107
 go_wp2_with (first | ((with_reducible refine dH (N := 1) rfl ?_); refine cu ?hg (N := 1) ?hd (cs := #[.int .i64 aT, .int .i64 aZ, .slice bK aY.length bJ]) (t := 31) ?hr ?_; (case hd => rfl); (case hg => rfl); (case hr => first | (go_simp; done) | (go_simp; rfl)); intro xP hg w2 hbox hb; have bF := aj.mk (aP (by repeat (first | (with_reducible first | exact HB.out | apply ak | apply ah | apply au) | exact HB.out)) hb); have dS := aj.mk (hbox); have eu := aj.mk ((by rw [hg]; exact (bf (by repeat (first | (with_reducible first | exact HB.out | apply ak | apply ah | apply au) | exact HB.out))) : w.heap.size ≤ xP)); have fM := aj.mk ((by rw [hg]; exact (bf (by repeat (first | (with_reducible first | exact HB.out | apply ak | apply ah | apply au) | exact HB.out))) : w.heap.size ≤ xP)); clear HB; have HB := bF; have wC := dS; have akI := eu; have Qn := fM; clear bF dS eu fM; clear hb hbox hg) | ((with_reducible refine dH (N := 2) rfl ?_); refine cu ?hg (N := 2) ?hd (cs := #[.int .i64 0, .int .i64 0]) (t := 134) ?hr ?_; (case hd => rfl); (case hg => rfl); (case hr => first | (go_simp; done) | (go_simp; rfl)); intro Ei hg w3 hbox hb; have bF := aj.mk (bz (g := xP) (o := .cells #[.int .i64 aT, .int .i64 aZ, .slice bK aY.length bJ] 31 (0, 0)) (by (with_reducible repeat (first | refine aB ?_ _ | refine aF ?_ | refine aC ?_ _)); exact wC.out) hb); have dS := aj.mk (aP (by repeat (first | (with_reducible first | exact HB.out | apply ak | apply ah | apply au | refine aA ?_ Qn.out) | exact HB.out)) hb); have eu := aj.mk (hbox); have fM := aj.mk ((by rw [hg]; exact (bf (by repeat (first | (with_reducible first | exact HB.out | apply ak | apply ah | apply au | refine aA ?_ Qn.out) | exact HB.out))) : w.heap.size ≤ Ei)); have jR := aj.mk ((by rw [hg]; exact (bf (by repeat (first | (with_reducible first | exact HB.out | apply ak | apply ah | apply au | refine aA ?_ Qn.out) | exact HB.out))) : w.heap.size ≤ Ei)); have kD := aj.mk ((by rw [hg]; exact Nat.ne_of_lt (dY (g := xP) (o := .cells #[.int .i64 aT, .int .i64 aZ, .slice bK aY.length bJ] 31 (0, 0)) (by (with_reducible repeat (first | refine aB ?_ _ | refine aF ?_ | refine aC ?_ _)); exact wC.out)) : xP ≠ Ei)); have kW := aj.mk ((by rw [hg]; exact Nat.ne_of_gt (dY (g := xP) (o := .cells #[.int .i64 aT, .int .i64 aZ, .slice bK aY.length bJ] 31 (0, 0)) (by (with_reducible repeat (first | refine aB ?_ _ | refine aF ?_ | refine aC ?_ _)); exact wC.out)) : Ei ≠ xP)); clear wC; clear HB; have wC := bF; have HB := dS; have Le := eu; have akH := fM; have adL := jR; have SE := kD; have SC := kW; clear bF dS eu fM jR kD kW; clear hb hbox hg; have alD := SE.out; have alA := SC.out; have NV : w3.cell? ⟨xP, 0, none⟩ = some (.int .i64 aT) := (az wC.out 0).trans rfl; have NS : w3.cell? ⟨xP, 1, none⟩ = some (.int .i64 aZ) := (az wC.out 1).trans rfl; have NM : w3.cell? ⟨xP, 2, none⟩ = some (.slice bK aY.length bJ) := (az wC.out 2).trans rfl; have NI := ay wC.out 0; have NH := ay wC.out 1; have NF := ay wC.out 2; have vO : w3.cell? ⟨Ei, 0, none⟩ = some (.int .i64 0) := (az Le.out 0).trans rfl; have vN : w3.cell? ⟨Ei, 1, none⟩ = some (.int .i64 0) := (az Le.out 1).trans rfl; have vJ := ay Le.out 0; have vI := ay Le.out 1))
 refine bodyPost_ret (results_cell_row rfl _ _ Ei 134 #[.int .i64 aT, .int .i64 aZ] (0, 0) _ rfl (by (with_reducible repeat (first | refine aB ?_ _ | refine aF ?_ | refine aC ?_ _)); refine fZ (cs := #[.int .i64 aT, .int .i64 0]) ?_ 1 _ rfl; (with_reducible repeat (first | refine aB ?_ _ | refine aF ?_ | refine aC ?_ _)); refine fZ (cs := #[.int .i64 0, .int .i64 0]) ?_ 0 _ rfl; (with_reducible repeat (first | refine aB ?_ _ | refine aF ?_ | refine aC ?_ _)); exact Le.out) Try.underlying134 rfl (by kernel_rfl)) rfl ?_
 exact ⟨by first | rfl | (simp [aN, aK] <;> rfl) | (simp [*, aN, aK] <;> rfl), by repeat (first | (with_reducible first | exact HB.out | apply ak | apply ah | apply au | refine aA ?_ Qn.out | refine aA ?_ adL.out) | exact HB.out)⟩
def eF.l0 : Nat → List Int → List Int → Int → Int → Option (Bool)
 | 0, _, _, _, _ => none
 | k + 1, x0, x1, x12, FI => if FI < x12 then (if 0 ≤ FI then (if FI < (x0.length : Int) then (if FI < (x1.length : Int) then (if (rd x0 FI) = (rd x1 FI) then (eF.l0 k x0 x1 x12 (wrap64 (FI + 1))) else (some false)) else (none)) else (none)) else (none)) else (some true)
def eF.f (k : Nat) (l0 : List Int) (l1 : List Int) : Option (Bool) := if (l0.length : Int) = (l1.length : Int) then (eF.l0 k l0 l1 (l0.length : Int) 0) else (some false)
theorem eF.calls (k : Nat) (A0 : Option Addr) (c0 : Nat) (l0 : List Int) (A1 : Option Addr) (c1 : Nat) (l1 : List Int) (r : Bool) (w : World) (hr0 : Kd.C (Kd.int .i64) w A0 l0.length l0) (hc0 : l0.length ≤ c0) (hr1 : Kd.C (Kd.int .i64) w A1 l1.length l1) (hc1 : l1.length ≤ c1) (h : eF.f k l0 l1 = some r) :
 Calls Try.prog 108 #[.slice A0 l0.length c0, .slice A1 l1.length c1] w fun e w' => e = .returned (.bool r) ∧ bV w w' := by
 have HR0 := aj.mk hr0
 have HC0 := aj.mk hc0
 clear hr0 hc0
 have HR1 := aj.mk hr1
 have HC1 := aj.mk hc1
 clear hr1 hc1
 have H : (if (l0.length : Int) = (l1.length : Int) then (eF.l0 k l0 l1 (l0.length : Int) 0) else (some false)) = some r := h
 clear h
 by_cases c3 : (l0.length : Int) = (l1.length : Int)
 · rw [if_pos c3] at H
   have Vg : ((l0.length : Int) == (l1.length : Int)) = true := beq_iff_eq.mpr c3
   have acf : ((l0.length : Int) != (l1.length : Int)) = false := bne_eq_false_iff_eq.mpr c3
   have ace : (l0.length == l1.length) = true := by first | simpa using c3 | (simp at c3 ⊢; omega)
   clear c3
   have H' := aj.mk H
   clear H
   go_enter Try.func108, Try.ntmps108
   go_wp2
   repeat (go_quiet (fail); try go_wp2)
   go_loopg [13] k (fun kq v13 w' => ∃ (gU : Int), v13 = .int .i64 gU ∧ aj (eF.l0 kq l0 l1 (l0.length : Int) gU = some r) ∧ aj (kq ≤ k) ∧ bV w w')
   case atStart => exact ⟨(0), (by first | rfl | (simp; done) | (simp [*]; done)), H', ⟨Nat.le_refl _⟩, by repeat (first | exact bV.refl _ | apply bV.step)⟩
   case round =>
    clear H'
    try clear c1
    try clear p2
    try clear c3
    try clear Vg
    try clear acf
    try clear ace
    obtain ⟨gU, rfl, HA, zy, ⟨m1, rfl⟩⟩ := hrel
    cases gk with
    | zero => exact absurd HA.out (by simp [eF.l0])
    | succ k1 =>
      have H := HA.out
      clear HA
      simp only [eF.l0] at H
      by_cases c4 : gU < (l0.length : Int)
      · rw [if_pos c4] at H
        have vT : decide (gU < (l0.length : Int)) = true := decide_eq_true c4
        clear c4
        by_cases c5 : 0 ≤ gU
        · rw [if_pos c5] at H
          have BM : decide (0 ≤ gU) = true := decide_eq_true c5
          clear c5
          by_cases c6 : gU < (l0.length : Int)
          · rw [if_pos c6] at H
            have qC : decide (gU < (l0.length : Int)) = true := decide_eq_true c6
            clear c6
            by_cases c7 : gU < (l1.length : Int)
            · rw [if_pos c7] at H
              have vS : decide (gU < (l1.length : Int)) = true := decide_eq_true c7
              clear c7
              by_cases c8 : (rd l0 gU) = (rd l1 gU)
              · rw [if_pos c8] at H
                have zW : ((rd l0 gU) == (rd l1 gU)) = true := beq_iff_eq.mpr c8
                have ahG : ((rd l0 gU) != (rd l1 gU)) = false := bne_eq_false_iff_eq.mpr c8
                clear c8
                have H' := aj.mk H
                clear H
                have Nj : 0 ≤ (gU : Int) := of_decide_eq_true (by first | (with_reducible assumption) | assumption)
                have MQ : gU < (l0.length : Int) := of_decide_eq_true (by first | (with_reducible assumption) | assumption)
                obtain ⟨acC, ZX, Wu⟩ := Kd.iF HR0.out gU Nj MQ
                cases ZX
                replace Nj := eq_true Nj
                replace MQ := eq_true MQ
                have Nh : 0 ≤ (gU : Int) := of_decide_eq_true (by first | (with_reducible assumption) | assumption)
                have MO : gU < (l1.length : Int) := of_decide_eq_true (by first | (with_reducible assumption) | assumption)
                obtain ⟨acB, ZW, Ws⟩ := Kd.iF HR1.out gU Nh MO
                cases ZW
                replace Nh := eq_true Nh
                replace MO := eq_true MO
                go_wp2
                repeat (go_quiet (fail); try go_wp2)
                go_roundg k1
                case measure => have := zy.out; omega
                case rel => exact ⟨(wrap64 (gU + 1)), (by first | rfl | (simp; done) | (simp [*]; done)), H', ⟨by have := zy.out; omega⟩, by repeat (first | exact bV.refl _ | apply bV.step)⟩
              · rw [if_neg c8] at H
                have zW : ((rd l0 gU) == (rd l1 gU)) = false := beq_eq_false_iff_ne.mpr c8
                have ahG : ((rd l0 gU) != (rd l1 gU)) = true := bne_iff_ne.mpr c8
                obtain rfl := Option.some.inj H
                have Nj : 0 ≤ (gU : Int) := of_decide_eq_true (by first | (with_reducible assumption) | assumption)
                have MQ : gU < (l0.length : Int) := of_decide_eq_true (by first | (with_reducible assumption) | assumption)
                obtain ⟨acC, ZX, Wu⟩ := Kd.iF HR0.out gU Nj MQ
                cases ZX
                replace Nj := eq_true Nj
                replace MQ := eq_true MQ
                have Nh : 0 ≤ (gU : Int) := of_decide_eq_true (by first | (with_reducible assumption) | assumption)
                have MO : gU < (l1.length : Int) := of_decide_eq_true (by first | (with_reducible assumption) | assumption)
                obtain ⟨acB, ZW, Ws⟩ := Kd.iF HR1.out gU Nh MO
                cases ZW
                replace Nh := eq_true Nh
                replace MO := eq_true MO
                go_wp2
                repeat (go_quiet (fail); try go_wp2)
                go_ret
                exact ⟨by first | rfl | (simp; done) | (simp [*]; done), by repeat (first | exact bV.refl _ | apply bV.step)⟩
            · rw [if_neg c7] at H
              exact absurd H (by simp)
          · rw [if_neg c6] at H
            exact absurd H (by simp)
        · rw [if_neg c5] at H
          exact absurd H (by simp)
      · rw [if_neg c4] at H
        have vT : decide (gU < (l0.length : Int)) = false := decide_eq_false c4
        clear c4
        obtain rfl := Option.some.inj H
        go_wp2
        repeat (go_quiet (fail); try go_wp2)
        go_ret
        exact ⟨by first | rfl | (simp; done) | (simp [*]; done), by repeat (first | exact bV.refl _ | apply bV.step)⟩
 · rw [if_neg c3] at H
   have Vg : ((l0.length : Int) == (l1.length : Int)) = false := beq_eq_false_iff_ne.mpr c3
   have acf : ((l0.length : Int) != (l1.length : Int)) = true := bne_iff_ne.mpr c3
   have ace : (l0.length == l1.length) = false := by first | simpa using c3 | (simp at c3 ⊢; omega)
   obtain rfl := Option.some.inj H
   go_enter Try.func108, Try.ntmps108
   go_wp2
   repeat (go_quiet (fail); try go_wp2)
   go_ret
   exact ⟨by first | rfl | (simp; done) | (simp [*]; done), by repeat (first | exact bV.refl _ | apply bV.step)⟩
end Go.Proofs.Ytnijhjbcjeohhaa.PQ

