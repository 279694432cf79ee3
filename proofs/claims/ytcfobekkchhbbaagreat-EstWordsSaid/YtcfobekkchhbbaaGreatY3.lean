import Derived.Test.YtcfobekkchhbbaaGreatY2
/- Joined and thinned by a program of this session's own (wip/pack2.py) out of its texts (wip/ of its repo); parts were laid by its own program (wip/print-patch.py over the kit's print) out of the translation; Lean checks all. -/
set_option maxRecDepth 100000
set_option maxHeartbeats 8000000
namespace Go.Proofs.YtcfobekkchhbbaaGreat.PQ
open Go.RowKit Go.Proofs.af.aQ Go.Proofs.af.a_ Go.Proofs.af.bg
attribute [local go_sem] iJ iH jI jH gV gU iI iG
set_option linter.unusedVariables false
set_option linter.unusedSimpArgs false
mutual
def aW.j2 : Nat → Int → Int → Int → Int → Int → Int → Int → Int → Option (Int × Int)
 | 0, _, _, _, _, _, _, _, _ => none
 | k + 1, x2, x8, x9, x10, x11, DU, x14, x15 => if x9 = 0 then (none) else (aW.l1 k x2 x8 x9 x10 x14 x15 (IntKind.u64.wrap ((IntKind.u64.wrap ((IntKind.u64.wrap ((IntKind.u64.wrap (x11 * 4294967296)) + DU)) - (IntKind.u64.wrap (x15 * x2)))) - (IntKind.u64.wrap ((IntKind.u64.wrap (Int.tdiv (IntKind.u64.wrap ((IntKind.u64.wrap ((IntKind.u64.wrap (x11 * 4294967296)) + DU)) - (IntKind.u64.wrap (x15 * x2)))) x9)) * x9)))) (IntKind.u64.wrap ((IntKind.u64.wrap ((IntKind.u64.wrap (x11 * 4294967296)) + DU)) - (IntKind.u64.wrap (x15 * x2)))) (IntKind.u64.wrap (Int.tdiv (IntKind.u64.wrap ((IntKind.u64.wrap ((IntKind.u64.wrap (x11 * 4294967296)) + DU)) - (IntKind.u64.wrap (x15 * x2)))) x9)))
def aW.l1 : Nat → Int → Int → Int → Int → Int → Int → Int → Int → Int → Option (Int × Int)
 | 0, _, _, _, _, _, _, _, _, _ => none
 | k + 1, x2, x8, x9, x10, x14, x15, x16, x17, x18 => if x18 ≥ 4294967296 then (aW.j4 k x2 x8 x9 x10 x14 x15 x16 x17 x18 true) else (aW.j4 k x2 x8 x9 x10 x14 x15 x16 x17 x18 (decide ((IntKind.u64.wrap (x18 * x10)) > (IntKind.u64.wrap ((IntKind.u64.wrap (4294967296 * x16)) + x14)))))
def aW.j4 : Nat → Int → Int → Int → Int → Int → Int → Int → Int → Int → Bool → Option (Int × Int)
 | 0, _, _, _, _, _, _, _, _, _, _ => none
 | k + 1, x2, x8, x9, x10, x14, x15, x16, x17, x18, x113 => if x113 = true then (if (IntKind.u64.wrap (x16 + x9)) ≥ 4294967296 then (if 0 ≤ x8 then (some (IntKind.u64.wrap ((IntKind.u64.wrap (x15 * 4294967296)) + (IntKind.u64.wrap (x18 - 1))), shr .u64 (IntKind.u64.wrap ((IntKind.u64.wrap ((IntKind.u64.wrap (x17 * 4294967296)) + x14)) - (IntKind.u64.wrap ((IntKind.u64.wrap (x18 - 1)) * x2)))) x8)) else (none)) else (aW.l1 k x2 x8 x9 x10 x14 x15 (IntKind.u64.wrap (x16 + x9)) x17 (IntKind.u64.wrap (x18 - 1)))) else (if 0 ≤ x8 then (some (IntKind.u64.wrap ((IntKind.u64.wrap (x15 * 4294967296)) + x18), shr .u64 (IntKind.u64.wrap ((IntKind.u64.wrap ((IntKind.u64.wrap (x17 * 4294967296)) + x14)) - (IntKind.u64.wrap (x18 * x2)))) x8)) else (none))
def aW.l0 : Nat → Int → Int → Int → Int → Int → Int → Int → Int → Int → Option (Int × Int)
 | 0, _, _, _, _, _, _, _, _, _ => none
 | k + 1, x2, x8, x9, x10, x11, DU, x14, x15, x16 => if x15 ≥ 4294967296 then (aW.j1 k x2 x8 x9 x10 x11 DU x14 x15 x16 true) else (aW.j1 k x2 x8 x9 x10 x11 DU x14 x15 x16 (decide ((IntKind.u64.wrap (x15 * x10)) > (IntKind.u64.wrap ((IntKind.u64.wrap (4294967296 * x16)) + DU)))))
def aW.j1 : Nat → Int → Int → Int → Int → Int → Int → Int → Int → Int → Bool → Option (Int × Int)
 | 0, _, _, _, _, _, _, _, _, _, _ => none
 | k + 1, x2, x8, x9, x10, x11, DU, x14, x15, x16, x78 => if x78 = true then (if (IntKind.u64.wrap (x16 + x9)) ≥ 4294967296 then (aW.j2 k x2 x8 x9 x10 x11 DU x14 (IntKind.u64.wrap (x15 - 1))) else (aW.l0 k x2 x8 x9 x10 x11 DU x14 (IntKind.u64.wrap (x15 - 1)) (IntKind.u64.wrap (x16 + x9)))) else (aW.j2 k x2 x8 x9 x10 x11 DU x14 x15)
end
def aW.f (k : Nat) (a0 : Int) (a1 : Int) (a2 : Int) : Option (Int × Int) := if a2 = 0 then (none) else (if a2 ≤ a0 then (none) else (if a0 = 0 then (some (IntKind.u64.wrap (Int.tdiv a1 a2), Int.tmod a1 a2)) else ((bits_LeadingZeros64.f a2).bind fun t120 => (if 0 ≤ (IntKind.u64.wrap (t120)) then (if 0 ≤ (IntKind.u64.wrap (64 - (IntKind.u64.wrap (t120)))) then (if ((shl .u64 a2 (IntKind.u64.wrap (t120))) / 4294967296) = 0 then (none) else (aW.l0 k (shl .u64 a2 (IntKind.u64.wrap (t120))) (IntKind.u64.wrap (t120)) ((shl .u64 a2 (IntKind.u64.wrap (t120))) / 4294967296) (Go.bits .and .u64 (shl .u64 a2 (IntKind.u64.wrap (t120))) 4294967295) (Go.bits .or .u64 (shl .u64 a0 (IntKind.u64.wrap (t120))) (shr .u64 a1 (IntKind.u64.wrap (64 - (IntKind.u64.wrap (t120)))))) ((shl .u64 a1 (IntKind.u64.wrap (t120))) / 4294967296) (Go.bits .and .u64 (shl .u64 a1 (IntKind.u64.wrap (t120))) 4294967295) (IntKind.u64.wrap (Int.tdiv (Go.bits .or .u64 (shl .u64 a0 (IntKind.u64.wrap (t120))) (shr .u64 a1 (IntKind.u64.wrap (64 - (IntKind.u64.wrap (t120)))))) ((shl .u64 a2 (IntKind.u64.wrap (t120))) / 4294967296))) (IntKind.u64.wrap ((Go.bits .or .u64 (shl .u64 a0 (IntKind.u64.wrap (t120))) (shr .u64 a1 (IntKind.u64.wrap (64 - (IntKind.u64.wrap (t120)))))) - (IntKind.u64.wrap ((IntKind.u64.wrap (Int.tdiv (Go.bits .or .u64 (shl .u64 a0 (IntKind.u64.wrap (t120))) (shr .u64 a1 (IntKind.u64.wrap (64 - (IntKind.u64.wrap (t120)))))) ((shl .u64 a2 (IntKind.u64.wrap (t120))) / 4294967296))) * ((shl .u64 a2 (IntKind.u64.wrap (t120))) / 4294967296))))))) else (none)) else (none)))))
theorem aW.calls (k : Nat) (a0 : Int) (a1 : Int) (a2 : Int) (r1 : Int) (r2 : Int) (w : World) (h : aW.f k a0 a1 a2 = some (r1, r2)) :
 Calls Tryz.prog 184 #[.int .u64 a0, .int .u64 a1, .int .u64 a2] w fun e w' => e = .returned (.tuple #[.int .u64 r1, .int .u64 r2]) ∧ bY w w' := by
 have H : (if a2 = 0 then (none) else (if a2 ≤ a0 then (none) else (if a0 = 0 then (some (IntKind.u64.wrap (Int.tdiv a1 a2), Int.tmod a1 a2)) else ((bits_LeadingZeros64.f a2).bind fun t120 => (if 0 ≤ (IntKind.u64.wrap (t120)) then (if 0 ≤ (IntKind.u64.wrap (64 - (IntKind.u64.wrap (t120)))) then (if ((shl .u64 a2 (IntKind.u64.wrap (t120))) / 4294967296) = 0 then (none) else (aW.l0 k (shl .u64 a2 (IntKind.u64.wrap (t120))) (IntKind.u64.wrap (t120)) ((shl .u64 a2 (IntKind.u64.wrap (t120))) / 4294967296) (Go.bits .and .u64 (shl .u64 a2 (IntKind.u64.wrap (t120))) 4294967295) (Go.bits .or .u64 (shl .u64 a0 (IntKind.u64.wrap (t120))) (shr .u64 a1 (IntKind.u64.wrap (64 - (IntKind.u64.wrap (t120)))))) ((shl .u64 a1 (IntKind.u64.wrap (t120))) / 4294967296) (Go.bits .and .u64 (shl .u64 a1 (IntKind.u64.wrap (t120))) 4294967295) (IntKind.u64.wrap (Int.tdiv (Go.bits .or .u64 (shl .u64 a0 (IntKind.u64.wrap (t120))) (shr .u64 a1 (IntKind.u64.wrap (64 - (IntKind.u64.wrap (t120)))))) ((shl .u64 a2 (IntKind.u64.wrap (t120))) / 4294967296))) (IntKind.u64.wrap ((Go.bits .or .u64 (shl .u64 a0 (IntKind.u64.wrap (t120))) (shr .u64 a1 (IntKind.u64.wrap (64 - (IntKind.u64.wrap (t120)))))) - (IntKind.u64.wrap ((IntKind.u64.wrap (Int.tdiv (Go.bits .or .u64 (shl .u64 a0 (IntKind.u64.wrap (t120))) (shr .u64 a1 (IntKind.u64.wrap (64 - (IntKind.u64.wrap (t120)))))) ((shl .u64 a2 (IntKind.u64.wrap (t120))) / 4294967296))) * ((shl .u64 a2 (IntKind.u64.wrap (t120))) / 4294967296))))))) else (none)) else (none)))))) = some (r1, r2) := h
 clear h
 by_cases c4 : a2 = 0
 · rw [if_pos c4] at H
   exact absurd H (by simp)
 · rw [if_neg c4] at H
   have rP : (a2 == 0) = false := beq_eq_false_iff_ne.mpr c4
   have La : (a2 != 0) = true := bne_iff_ne.mpr c4
   by_cases c5 : a2 ≤ a0
   · rw [if_pos c5] at H
     exact absurd H (by simp)
   · rw [if_neg c5] at H
     have zU : decide (a2 ≤ a0) = false := decide_eq_false c5
     clear c5
     by_cases c6 : a0 = 0
     · rw [if_pos c6] at H
       have rO : (a0 == 0) = true := beq_iff_eq.mpr c6
       have DN : (a0 != 0) = false := bne_eq_false_iff_eq.mpr c6
       clear c6
       simp only [Option.some.injEq, Prod.mk.injEq] at H
       obtain ⟨rfl, rfl⟩ := H
       go_enter Tryz.func184, Tryz.ntmps184
       go_wp2
       repeat (go_quiet (fail); try go_wp2)
       go_ret2
       exact ⟨by first | rfl | (simp; done) | (simp [*]; done), by repeat (first | exact bY.refl _ | apply bY.step)⟩
     · rw [if_neg c6] at H
       have rO : (a0 == 0) = false := beq_eq_false_iff_ne.mpr c6
       have DN : (a0 != 0) = true := bne_iff_ne.mpr c6
       replace H := Option.bind_eq_some_iff.mp H
       obtain ⟨t120, A70, H⟩ := H
       replace H : (if 0 ≤ (IntKind.u64.wrap (t120)) then (if 0 ≤ (IntKind.u64.wrap (64 - (IntKind.u64.wrap (t120)))) then (if ((shl .u64 a2 (IntKind.u64.wrap (t120))) / 4294967296) = 0 then (none) else (aW.l0 k (shl .u64 a2 (IntKind.u64.wrap (t120))) (IntKind.u64.wrap (t120)) ((shl .u64 a2 (IntKind.u64.wrap (t120))) / 4294967296) (Go.bits .and .u64 (shl .u64 a2 (IntKind.u64.wrap (t120))) 4294967295) (Go.bits .or .u64 (shl .u64 a0 (IntKind.u64.wrap (t120))) (shr .u64 a1 (IntKind.u64.wrap (64 - (IntKind.u64.wrap (t120)))))) ((shl .u64 a1 (IntKind.u64.wrap (t120))) / 4294967296) (Go.bits .and .u64 (shl .u64 a1 (IntKind.u64.wrap (t120))) 4294967295) (IntKind.u64.wrap (Int.tdiv (Go.bits .or .u64 (shl .u64 a0 (IntKind.u64.wrap (t120))) (shr .u64 a1 (IntKind.u64.wrap (64 - (IntKind.u64.wrap (t120)))))) ((shl .u64 a2 (IntKind.u64.wrap (t120))) / 4294967296))) (IntKind.u64.wrap ((Go.bits .or .u64 (shl .u64 a0 (IntKind.u64.wrap (t120))) (shr .u64 a1 (IntKind.u64.wrap (64 - (IntKind.u64.wrap (t120)))))) - (IntKind.u64.wrap ((IntKind.u64.wrap (Int.tdiv (Go.bits .or .u64 (shl .u64 a0 (IntKind.u64.wrap (t120))) (shr .u64 a1 (IntKind.u64.wrap (64 - (IntKind.u64.wrap (t120)))))) ((shl .u64 a2 (IntKind.u64.wrap (t120))) / 4294967296))) * ((shl .u64 a2 (IntKind.u64.wrap (t120))) / 4294967296))))))) else (none)) else (none)) = some (r1, r2) := H
       have A7 := aj.mk A70
       clear A70
       obtain ⟨jm, Qr⟩ : ∃ j_ : Int, (IntKind.u64.wrap (t120)) = j_ := ⟨_, rfl⟩
       replace H : (if 0 ≤ (jm) then (if 0 ≤ (IntKind.u64.wrap (64 - (jm))) then (if ((shl .u64 a2 (jm)) / 4294967296) = 0 then (none) else (aW.l0 k (shl .u64 a2 (jm)) jm ((shl .u64 a2 (jm)) / 4294967296) (Go.bits .and .u64 (shl .u64 a2 (jm)) 4294967295) (Go.bits .or .u64 (shl .u64 a0 (jm)) (shr .u64 a1 (IntKind.u64.wrap (64 - (jm))))) ((shl .u64 a1 (jm)) / 4294967296) (Go.bits .and .u64 (shl .u64 a1 (jm)) 4294967295) (IntKind.u64.wrap (Int.tdiv (Go.bits .or .u64 (shl .u64 a0 (jm)) (shr .u64 a1 (IntKind.u64.wrap (64 - (jm))))) ((shl .u64 a2 (jm)) / 4294967296))) (IntKind.u64.wrap ((Go.bits .or .u64 (shl .u64 a0 (jm)) (shr .u64 a1 (IntKind.u64.wrap (64 - (jm))))) - (IntKind.u64.wrap ((IntKind.u64.wrap (Int.tdiv (Go.bits .or .u64 (shl .u64 a0 (jm)) (shr .u64 a1 (IntKind.u64.wrap (64 - (jm))))) ((shl .u64 a2 (jm)) / 4294967296))) * ((shl .u64 a2 (jm)) / 4294967296))))))) else (none)) else (none)) = some (r1, r2) := by first | (rw [Qr] at H; exact H) | (simp only [Qr] at H ⊢; exact H)
       (try rw [Qr] at A7)
       by_cases c9 : 0 ≤ (jm)
       · rw [if_pos c9] at H
         have O_ := eq_true c9
         have Q4 : decide (0 ≤ (jm)) = true := decide_eq_true c9
         clear c9
         obtain ⟨dN, pJ⟩ : ∃ j_ : Int, (shl .u64 a2 (jm)) = j_ := ⟨_, rfl⟩
         replace H : (if 0 ≤ (IntKind.u64.wrap (64 - (jm))) then (if ((dN) / 4294967296) = 0 then (none) else (aW.l0 k dN jm ((dN) / 4294967296) (Go.bits .and .u64 (dN) 4294967295) (Go.bits .or .u64 (shl .u64 a0 (jm)) (shr .u64 a1 (IntKind.u64.wrap (64 - (jm))))) ((shl .u64 a1 (jm)) / 4294967296) (Go.bits .and .u64 (shl .u64 a1 (jm)) 4294967295) (IntKind.u64.wrap (Int.tdiv (Go.bits .or .u64 (shl .u64 a0 (jm)) (shr .u64 a1 (IntKind.u64.wrap (64 - (jm))))) ((dN) / 4294967296))) (IntKind.u64.wrap ((Go.bits .or .u64 (shl .u64 a0 (jm)) (shr .u64 a1 (IntKind.u64.wrap (64 - (jm))))) - (IntKind.u64.wrap ((IntKind.u64.wrap (Int.tdiv (Go.bits .or .u64 (shl .u64 a0 (jm)) (shr .u64 a1 (IntKind.u64.wrap (64 - (jm))))) ((dN) / 4294967296))) * ((dN) / 4294967296))))))) else (none)) = some (r1, r2) := by first | (rw [pJ] at H; exact H) | (simp only [pJ] at H ⊢; exact H)
         (try rw [pJ] at A7)
         have aeZ : (IntKind.u64.wrap (a2 * 2 ^ min (jm).toNat 64)) = dN := pJ
         have aeY : (jm) ≤ 64 → (IntKind.u64.wrap (a2 * 2 ^ (jm).toNat)) = dN := yu pJ
         have CU := eq_true (of_decide_eq_true (by first | (with_reducible assumption) | assumption) : 0 ≤ (jm))
         obtain ⟨jP, tY⟩ : ∃ j_ : Int, (shl .u64 a0 (jm)) = j_ := ⟨_, rfl⟩
         replace H : (if 0 ≤ (IntKind.u64.wrap (64 - (jm))) then (if ((dN) / 4294967296) = 0 then (none) else (aW.l0 k dN jm ((dN) / 4294967296) (Go.bits .and .u64 (dN) 4294967295) (Go.bits .or .u64 (jP) (shr .u64 a1 (IntKind.u64.wrap (64 - (jm))))) ((shl .u64 a1 (jm)) / 4294967296) (Go.bits .and .u64 (shl .u64 a1 (jm)) 4294967295) (IntKind.u64.wrap (Int.tdiv (Go.bits .or .u64 (jP) (shr .u64 a1 (IntKind.u64.wrap (64 - (jm))))) ((dN) / 4294967296))) (IntKind.u64.wrap ((Go.bits .or .u64 (jP) (shr .u64 a1 (IntKind.u64.wrap (64 - (jm))))) - (IntKind.u64.wrap ((IntKind.u64.wrap (Int.tdiv (Go.bits .or .u64 (jP) (shr .u64 a1 (IntKind.u64.wrap (64 - (jm))))) ((dN) / 4294967296))) * ((dN) / 4294967296))))))) else (none)) = some (r1, r2) := by first | (rw [tY] at H; exact H) | (simp only [tY] at H ⊢; exact H)
         (try rw [tY] at A7)
         have aeX : (IntKind.u64.wrap (a0 * 2 ^ min (jm).toNat 64)) = jP := tY
         have aeW : (jm) ≤ 64 → (IntKind.u64.wrap (a0 * 2 ^ (jm).toNat)) = jP := yu tY
         obtain ⟨Bz, I4⟩ : ∃ j_ : Int, (IntKind.u64.wrap (64 - (jm))) = j_ := ⟨_, rfl⟩
         replace H : (if 0 ≤ (Bz) then (if ((dN) / 4294967296) = 0 then (none) else (aW.l0 k dN jm ((dN) / 4294967296) (Go.bits .and .u64 (dN) 4294967295) (Go.bits .or .u64 (jP) (shr .u64 a1 (Bz))) ((shl .u64 a1 (jm)) / 4294967296) (Go.bits .and .u64 (shl .u64 a1 (jm)) 4294967295) (IntKind.u64.wrap (Int.tdiv (Go.bits .or .u64 (jP) (shr .u64 a1 (Bz))) ((dN) / 4294967296))) (IntKind.u64.wrap ((Go.bits .or .u64 (jP) (shr .u64 a1 (Bz))) - (IntKind.u64.wrap ((IntKind.u64.wrap (Int.tdiv (Go.bits .or .u64 (jP) (shr .u64 a1 (Bz))) ((dN) / 4294967296))) * ((dN) / 4294967296))))))) else (none)) = some (r1, r2) := by first | (rw [I4] at H; exact H) | (simp only [I4] at H ⊢; exact H)
         (try rw [I4] at A7)
         by_cases c14 : 0 ≤ (Bz)
         · rw [if_pos c14] at H
           have n_ := eq_true c14
           have rZ : decide (0 ≤ (Bz)) = true := decide_eq_true c14
           clear c14
           obtain ⟨mF, tV⟩ : ∃ j_ : Int, (shr .u64 a1 (Bz)) = j_ := ⟨_, rfl⟩
           replace H : (if ((dN) / 4294967296) = 0 then (none) else (aW.l0 k dN jm ((dN) / 4294967296) (Go.bits .and .u64 (dN) 4294967295) (Go.bits .or .u64 (jP) (mF)) ((shl .u64 a1 (jm)) / 4294967296) (Go.bits .and .u64 (shl .u64 a1 (jm)) 4294967295) (IntKind.u64.wrap (Int.tdiv (Go.bits .or .u64 (jP) (mF)) ((dN) / 4294967296))) (IntKind.u64.wrap ((Go.bits .or .u64 (jP) (mF)) - (IntKind.u64.wrap ((IntKind.u64.wrap (Int.tdiv (Go.bits .or .u64 (jP) (mF)) ((dN) / 4294967296))) * ((dN) / 4294967296))))))) = some (r1, r2) := by first | (rw [tV] at H; exact H) | (simp only [tV] at H ⊢; exact H)
           (try rw [tV] at A7)
           have aeU : (a1 / 2 ^ min (Bz).toNat 64) = mF := tV
           have aeT : (Bz) ≤ 64 → (a1 / 2 ^ (Bz).toNat) = mF := yt tV
           have Ej := eq_true (of_decide_eq_true (by first | (with_reducible assumption) | assumption) : 0 ≤ (jm))
           obtain ⟨jE, pI⟩ : ∃ j_ : Int, (shl .u64 a1 (jm)) = j_ := ⟨_, rfl⟩
           replace H : (if ((dN) / 4294967296) = 0 then (none) else (aW.l0 k dN jm ((dN) / 4294967296) (Go.bits .and .u64 (dN) 4294967295) (Go.bits .or .u64 (jP) (mF)) ((jE) / 4294967296) (Go.bits .and .u64 (jE) 4294967295) (IntKind.u64.wrap (Int.tdiv (Go.bits .or .u64 (jP) (mF)) ((dN) / 4294967296))) (IntKind.u64.wrap ((Go.bits .or .u64 (jP) (mF)) - (IntKind.u64.wrap ((IntKind.u64.wrap (Int.tdiv (Go.bits .or .u64 (jP) (mF)) ((dN) / 4294967296))) * ((dN) / 4294967296))))))) = some (r1, r2) := by first | (rw [pI] at H; exact H) | (simp only [pI] at H ⊢; exact H)
           (try rw [pI] at A7)
           have Xk : (IntKind.u64.wrap (a1 * 2 ^ min (jm).toNat 64)) = jE := pI
           have aeS : (jm) ≤ 64 → (IntKind.u64.wrap (a1 * 2 ^ (jm).toNat)) = jE := yu pI
           by_cases c18 : ((dN) / 4294967296) = 0
           · rw [if_pos c18] at H
             exact absurd H (by simp)
           · rw [if_neg c18] at H
             have CO : (((dN) / 4294967296) == 0) = false := beq_eq_false_iff_ne.mpr c18
             have Jk : (((dN) / 4294967296) != 0) = true := bne_iff_ne.mpr c18
             have Yo := aj.mk H
             clear H
             go_enter Tryz.func184, Tryz.ntmps184
             go_upto_block 0 with (first | (go_at_call 199; (with_reducible refine (bits_LeadingZeros64.calls a2 t120 _ A7.out).mono ?_); rintro e w' ⟨rfl, ⟨nd, rfl⟩⟩; (try first | exact ⟨rfl, _, World.drewN_drewN _ _ _⟩ | exact ⟨rfl, _, Eq.trans (World.drewN_drewN _ _ _) (congrArg (World.drewN _) (Nat.add_assoc _ _ _))⟩)))
             repeat (go_quiet (first | (go_at_call 199; (with_reducible refine (bits_LeadingZeros64.calls a2 t120 _ A7.out).mono ?_); rintro e w' ⟨rfl, ⟨nd, rfl⟩⟩; (try first | exact ⟨rfl, _, World.drewN_drewN _ _ _⟩ | exact ⟨rfl, _, Eq.trans (World.drewN_drewN _ _ _) (congrArg (World.drewN _) (Nat.add_assoc _ _ _))⟩))); go_upto_block 0 with (first | (go_at_call 199; (with_reducible refine (bits_LeadingZeros64.calls a2 t120 _ A7.out).mono ?_); rintro e w' ⟨rfl, ⟨nd, rfl⟩⟩; (try first | exact ⟨rfl, _, World.drewN_drewN _ _ _⟩ | exact ⟨rfl, _, Eq.trans (World.drewN_drewN _ _ _) (congrArg (World.drewN _) (Nat.add_assoc _ _ _))⟩))))
             (try simp only [Act.put, List.setIfInBounds_toArray, List.set_cons_zero, List.set_cons_succ])
             go_cut [15] (fun v15 wc => ∃ (kq : Nat) (jo : Int), v15 = .int .u64 jo ∧ aj (aW.j2 kq dN jm ((dN) / 4294967296) (Go.bits .and .u64 (dN) 4294967295) (Go.bits .or .u64 (jP) (mF)) ((jE) / 4294967296) (Go.bits .and .u64 (jE) 4294967295) jo = some (r1, r2)) ∧ aj (kq ≤ k) ∧ bY w wc)
             case first =>
              have H := Yo.out
              clear Yo
              have H' := aj.mk H
              clear H
              go_wp2
              repeat (go_quiet (fail); try go_wp2)
              go_loopg [15, 16] k (fun kq v15 v16 w' => ∃ (jq : Int) (xm : Int), v15 = .int .u64 jq ∧ v16 = .int .u64 xm ∧ aj (aW.l0 kq dN jm ((dN) / 4294967296) (Go.bits .and .u64 (dN) 4294967295) (Go.bits .or .u64 (jP) (mF)) ((jE) / 4294967296) (Go.bits .and .u64 (jE) 4294967295) jq xm = some (r1, r2)) ∧ aj (kq ≤ k) ∧ bY w w')
              case atStart => exact ⟨(IntKind.u64.wrap (Int.tdiv (Go.bits .or .u64 (jP) (mF)) ((dN) / 4294967296))), (IntKind.u64.wrap ((Go.bits .or .u64 (jP) (mF)) - (IntKind.u64.wrap ((IntKind.u64.wrap (Int.tdiv (Go.bits .or .u64 (jP) (mF)) ((dN) / 4294967296))) * ((dN) / 4294967296))))), (by first | rfl | (simp; done) | (simp only [← pJ, ← tY, ← tV] <;> (first | rfl | simp)) | (simp [*]; done)), (by first | rfl | (simp; done) | (simp only [← pJ, ← tY, ← tV] <;> (first | rfl | simp)) | (simp [*]; done)), H', ⟨Nat.le_refl _⟩, by repeat (first | exact bY.refl _ | apply bY.step)⟩
              case round =>
               clear H'
               try clear c1
               try clear p2
               try clear c4
               try clear rP
               try clear La
               try clear c5
               try clear zU
               try clear c6
               try clear rO
               try clear DN
               try clear c9
               try clear O_
               try clear Q4
               try clear c11
               try clear CU
               try clear c14
               try clear n_
               try clear rZ
               try clear c16
               try clear Ej
               try clear c18
               try clear CO
               try clear Jk
               obtain ⟨jq, xm, rfl, rfl, HA, EI, ⟨m1, rfl⟩⟩ := hrel
               cases gk with
               | zero => exact absurd HA.out (by simp [aW.l0])
               | succ k1 =>
                 have H := HA.out
                 clear HA
                 simp only [aW.l0] at H
                 have Yn := aj.mk H
                 clear H
                 go_upto_region 17 with (fail)
                 repeat (go_quiet (fail); go_upto_region 17 with (fail))
                 go_cut [78] (fun v78 wc => ∃ (kq : Nat) (EO : Bool), v78 = .bool EO ∧ aj (aW.j1 kq dN jm ((dN) / 4294967296) (Go.bits .and .u64 (dN) 4294967295) (Go.bits .or .u64 (jP) (mF)) ((jE) / 4294967296) (Go.bits .and .u64 (jE) 4294967295) jq xm EO = some (r1, r2)) ∧ aj (kq ≤ k1) ∧ bY w wc)
                 case first =>
                  have H := Yn.out
                  clear Yn
                  by_cases c21 : jq ≥ 4294967296
                  · rw [if_pos c21] at H
                    have qL : decide (4294967296 ≤ jq) = true := decide_eq_true c21
                    clear c21
                    (first | rw [qL] | (simp only [dB, dD]; rw [qL]) | skip)
                    have H' := aj.mk H
                    clear H
                    go_wp2
                    repeat (go_quiet (fail); try go_wp2)
                    go_meet
                    case rel => exact ⟨_, (true), (by first | rfl | (simp; done) | (simp [*]; done)), H', ⟨by have := EI.out; first | omega | exact Nat.le_refl _⟩, by repeat (first | exact bY.refl _ | apply bY.step)⟩
                  · rw [if_neg c21] at H
                    have qL : decide (4294967296 ≤ jq) = false := decide_eq_false c21
                    clear c21
                    (first | rw [qL] | (simp only [dB, dD]; rw [qL]) | skip)
                    have H' := aj.mk H
                    clear H
                    go_wp2
                    repeat (go_quiet (fail); try go_wp2)
                    go_meet
                    case rel => exact ⟨_, (decide ((IntKind.u64.wrap (jq * (Go.bits .and .u64 (dN) 4294967295))) > (IntKind.u64.wrap ((IntKind.u64.wrap (4294967296 * xm)) + ((jE) / 4294967296))))), (by first | rfl | (simp; done) | (simp only [← pJ, ← pI] <;> (first | rfl | simp)) | (simp [*]; done)), H', ⟨by have := EI.out; first | omega | exact Nat.le_refl _⟩, by repeat (first | exact bY.refl _ | apply bY.step)⟩
                 case rest =>
                  clear Yn
                  try clear c1
                  try clear c2
                  try clear p2
                  try clear c4
                  try clear rP
                  try clear La
                  try clear c5
                  try clear zU
                  try clear c6
                  try clear rO
                  try clear DN
                  try clear c9
                  try clear O_
                  try clear Q4
                  try clear c11
                  try clear CU
                  try clear c14
                  try clear n_
                  try clear rZ
                  try clear c16
                  try clear Ej
                  try clear c18
                  try clear CO
                  try clear Jk
                  try clear c21
                  try clear qL
                  try clear p2
                  obtain ⟨kq, EO, rfl, HA, Vw, ⟨ajc, rfl⟩⟩ := hcut
                  cases kq with
                  | zero => exact absurd HA.out (by simp [aW.j1])
                  | succ Zj =>
                    have H := HA.out
                    clear HA
                    simp only [aW.j1] at H
                    by_cases Ib : EO = true
                    · subst Ib
                      rw [if_pos rfl] at H
                      by_cases c23 : (IntKind.u64.wrap (xm + ((dN) / 4294967296))) ≥ 4294967296
                      · rw [if_pos c23] at H
                        have CJ : decide (4294967296 ≤ (IntKind.u64.wrap (xm + ((dN) / 4294967296)))) = true := decide_eq_true c23
                        clear c23
                        have H' := aj.mk H
                        clear H
                        go_wp2
                        repeat (go_quiet (fail); try go_wp2)
                        go_meet
                        case rel => exact ⟨_, (IntKind.u64.wrap (jq - 1)), (by first | rfl | (simp; done) | (simp [*]; done)), H', ⟨by have := EI.out; have := Vw.out; first | omega | exact Nat.le_refl _⟩, by repeat (first | exact bY.refl _ | apply bY.step)⟩
                      · rw [if_neg c23] at H
                        have CJ : decide (4294967296 ≤ (IntKind.u64.wrap (xm + ((dN) / 4294967296)))) = false := decide_eq_false c23
                        clear c23
                        have H' := aj.mk H
                        clear H
                        go_wp2
                        repeat (go_quiet (fail); try go_wp2)
                        go_roundg Zj
                        case measure => have := EI.out; have := Vw.out; omega
                        case rel => exact ⟨(IntKind.u64.wrap (jq - 1)), (IntKind.u64.wrap (xm + ((dN) / 4294967296))), (by first | rfl | (simp; done) | (simp [*]; done)), (by first | rfl | (simp; done) | (simp only [← pJ] <;> (first | rfl | simp)) | (simp [*]; done)), H', ⟨by have := EI.out; have := Vw.out; omega⟩, by repeat (first | exact bY.refl _ | apply bY.step)⟩
                    · replace Ib := Bool.eq_false_iff.mpr Ib
                      subst Ib
                      have H1 : (aW.j2 Zj dN jm ((dN) / 4294967296) (Go.bits .and .u64 (dN) 4294967295) (Go.bits .or .u64 (jP) (mF)) ((jE) / 4294967296) (Go.bits .and .u64 (jE) 4294967295) jq) = some (r1, r2) := by rw [if_neg (show ¬ (false = true) by decide)] at H; exact H
                      clear H
                      have H := H1
                      clear H1
                      have H' := aj.mk H
                      clear H
                      go_wp2
                      repeat (go_quiet (fail); try go_wp2)
                      go_meet
                      case rel => exact ⟨_, (jq), (by first | rfl | (simp; done) | (simp [*]; done)), H', ⟨by have := EI.out; have := Vw.out; first | omega | exact Nat.le_refl _⟩, by repeat (first | exact bY.refl _ | apply bY.step)⟩
             case rest =>
              clear Yo
              try clear c1
              try clear c2
              try clear p2
              try clear c4
              try clear rP
              try clear La
              try clear c5
              try clear zU
              try clear c6
              try clear rO
              try clear DN
              try clear c9
              try clear O_
              try clear Q4
              try clear c11
              try clear CU
              try clear c14
              try clear n_
              try clear rZ
              try clear c16
              try clear Ej
              try clear c18
              try clear CO
              try clear Jk
              try clear c19
              try clear c21
              try clear qL
              try clear Ib
              try clear c23
              try clear CJ
              try clear p2
              obtain ⟨kq, jo, rfl, HA, Vx, ⟨ajd, rfl⟩⟩ := hcut
              cases kq with
              | zero => exact absurd HA.out (by simp [aW.j2])
              | succ Zk =>
                have H := HA.out
                clear HA
                simp only [aW.j2] at H
                by_cases c24 : ((dN) / 4294967296) = 0
                · rw [if_pos c24] at H
                  exact absurd H (by simp)
                · rw [if_neg c24] at H
                  have MN : (((dN) / 4294967296) == 0) = false := beq_eq_false_iff_ne.mpr c24
                  have MM : (((dN) / 4294967296) != 0) = true := bne_iff_ne.mpr c24
                  have H' := aj.mk H
                  clear H
                  go_wp2
                  repeat (go_quiet (fail); try go_wp2)
                  go_loopg [16, 18] Zk (fun kq v16 v18 w' => ∃ (xk : Int) (mD : Int), v16 = .int .u64 xk ∧ v18 = .int .u64 mD ∧ aj (aW.l1 kq dN jm ((dN) / 4294967296) (Go.bits .and .u64 (dN) 4294967295) (Go.bits .and .u64 (jE) 4294967295) jo xk (IntKind.u64.wrap ((IntKind.u64.wrap ((IntKind.u64.wrap ((Go.bits .or .u64 (jP) (mF)) * 4294967296)) + ((jE) / 4294967296))) - (IntKind.u64.wrap (jo * dN)))) mD = some (r1, r2)) ∧ aj (kq ≤ Zk) ∧ bY w w')
                  case atStart => exact ⟨(IntKind.u64.wrap ((IntKind.u64.wrap ((IntKind.u64.wrap ((IntKind.u64.wrap ((Go.bits .or .u64 (jP) (mF)) * 4294967296)) + ((jE) / 4294967296))) - (IntKind.u64.wrap (jo * dN)))) - (IntKind.u64.wrap ((IntKind.u64.wrap (Int.tdiv (IntKind.u64.wrap ((IntKind.u64.wrap ((IntKind.u64.wrap ((Go.bits .or .u64 (jP) (mF)) * 4294967296)) + ((jE) / 4294967296))) - (IntKind.u64.wrap (jo * dN)))) ((dN) / 4294967296))) * ((dN) / 4294967296))))), (IntKind.u64.wrap (Int.tdiv (IntKind.u64.wrap ((IntKind.u64.wrap ((IntKind.u64.wrap ((Go.bits .or .u64 (jP) (mF)) * 4294967296)) + ((jE) / 4294967296))) - (IntKind.u64.wrap (jo * dN)))) ((dN) / 4294967296))), (by first | rfl | (simp; done) | (simp only [← pJ, ← tY, ← tV, ← pI] <;> (first | rfl | simp)) | (simp [*]; done)), (by first | rfl | (simp; done) | (simp only [← pJ, ← tY, ← tV, ← pI] <;> (first | rfl | simp)) | (simp [*]; done)), H', ⟨Nat.le_refl _⟩, by repeat (first | exact bY.refl _ | apply bY.step)⟩
                  case round =>
                   clear H'
                   try clear c1
                   try clear c2
                   try clear p2
                   try clear c4
                   try clear rP
                   try clear La
                   try clear c5
                   try clear zU
                   try clear c6
                   try clear rO
                   try clear DN
                   try clear c9
                   try clear O_
                   try clear Q4
                   try clear c11
                   try clear CU
                   try clear c14
                   try clear n_
                   try clear rZ
                   try clear c16
                   try clear Ej
                   try clear c18
                   try clear CO
                   try clear Jk
                   try clear c19
                   try clear c21
                   try clear qL
                   try clear Ib
                   try clear c23
                   try clear CJ
                   try clear c24
                   try clear MN
                   try clear MM
                   try clear p2
                   obtain ⟨xk, mD, rfl, rfl, HA, Ie, ⟨m2, rfl⟩⟩ := hrel
                   cases gk with
                   | zero => exact absurd HA.out (by simp [aW.l1])
                   | succ k2 =>
                     have H := HA.out
                     clear HA
                     simp only [aW.l1] at H
                     have Ym := aj.mk H
                     clear H
                     go_upto_region 24 with (fail)
                     repeat (go_quiet (fail); go_upto_region 24 with (fail))
                     go_cut [113] (fun aed wc => ∃ (kq : Nat) (zY : Bool), aed = .bool zY ∧ aj (aW.j4 kq dN jm ((dN) / 4294967296) (Go.bits .and .u64 (dN) 4294967295) (Go.bits .and .u64 (jE) 4294967295) jo xk (IntKind.u64.wrap ((IntKind.u64.wrap ((IntKind.u64.wrap ((Go.bits .or .u64 (jP) (mF)) * 4294967296)) + ((jE) / 4294967296))) - (IntKind.u64.wrap (jo * dN)))) mD zY = some (r1, r2)) ∧ aj (kq ≤ k2) ∧ bY w wc)
                     case first =>
                      have H := Ym.out
                      clear Ym
                      by_cases Hz : mD ≥ 4294967296
                      · rw [if_pos Hz] at H
                        have zC : decide (4294967296 ≤ mD) = true := decide_eq_true Hz
                        clear Hz
                        (first | rw [zC] | (simp only [dB, dD]; rw [zC]) | skip)
                        have H' := aj.mk H
                        clear H
                        go_wp2
                        repeat (go_quiet (fail); try go_wp2)
                        go_meet
                        case rel => exact ⟨_, (true), (by first | rfl | (simp; done) | (simp [*]; done)), H', ⟨by have := Vx.out; have := Ie.out; first | omega | exact Nat.le_refl _⟩, by repeat (first | exact bY.refl _ | apply bY.step)⟩
                      · rw [if_neg Hz] at H
                        have zC : decide (4294967296 ≤ mD) = false := decide_eq_false Hz
                        clear Hz
                        (first | rw [zC] | (simp only [dB, dD]; rw [zC]) | skip)
                        have H' := aj.mk H
                        clear H
                        go_wp2
                        repeat (go_quiet (fail); try go_wp2)
                        go_meet
                        case rel => exact ⟨_, (decide ((IntKind.u64.wrap (mD * (Go.bits .and .u64 (dN) 4294967295))) > (IntKind.u64.wrap ((IntKind.u64.wrap (4294967296 * xk)) + (Go.bits .and .u64 (jE) 4294967295))))), (by first | rfl | (simp; done) | (simp only [← pJ, ← pI] <;> (first | rfl | simp)) | (simp [*]; done)), H', ⟨by have := Vx.out; have := Ie.out; first | omega | exact Nat.le_refl _⟩, by repeat (first | exact bY.refl _ | apply bY.step)⟩
                     case rest =>
                      clear Ym
                      try clear c1
                      try clear c2
                      try clear p2
                      try clear c4
                      try clear rP
                      try clear La
                      try clear c5
                      try clear zU
                      try clear c6
                      try clear rO
                      try clear DN
                      try clear c9
                      try clear O_
                      try clear Q4
                      try clear c11
                      try clear CU
                      try clear c14
                      try clear n_
                      try clear rZ
                      try clear c16
                      try clear Ej
                      try clear c18
                      try clear CO
                      try clear Jk
                      try clear c19
                      try clear c21
                      try clear qL
                      try clear Ib
                      try clear c23
                      try clear CJ
                      try clear c24
                      try clear MN
                      try clear MM
                      try clear Hz
                      try clear zC
                      try clear p2
                      obtain ⟨kq, zY, rfl, HA, abo, ⟨ajb, rfl⟩⟩ := hcut
                      cases kq with
                      | zero => exact absurd HA.out (by simp [aW.j4])
                      | succ aes =>
                        have H := HA.out
                        clear HA
                        simp only [aW.j4] at H
                        by_cases ML : zY = true
                        · subst ML
                          rw [if_pos rfl] at H
                          by_cases c28 : (IntKind.u64.wrap (xk + ((dN) / 4294967296))) ≥ 4294967296
                          · rw [if_pos c28] at H
                            have V9 : decide (4294967296 ≤ (IntKind.u64.wrap (xk + ((dN) / 4294967296)))) = true := decide_eq_true c28
                            clear c28
                            by_cases c29 : 0 ≤ jm
                            · rw [if_pos c29] at H
                              have ZZ := eq_true c29
                              have ahu : decide (0 ≤ jm) = true := decide_eq_true c29
                              clear c29
                              obtain ⟨pF, wF⟩ : ∃ j_ : Int, (shr .u64 (IntKind.u64.wrap ((IntKind.u64.wrap ((IntKind.u64.wrap ((IntKind.u64.wrap ((IntKind.u64.wrap ((IntKind.u64.wrap ((Go.bits .or .u64 (jP) (mF)) * 4294967296)) + ((jE) / 4294967296))) - (IntKind.u64.wrap (jo * dN)))) * 4294967296)) + (Go.bits .and .u64 (jE) 4294967295))) - (IntKind.u64.wrap ((IntKind.u64.wrap (mD - 1)) * dN)))) jm) = j_ := ⟨_, rfl⟩
                              replace H : (some (IntKind.u64.wrap ((IntKind.u64.wrap (jo * 4294967296)) + (IntKind.u64.wrap (mD - 1))), pF)) = some (r1, r2) := by first | (rw [wF] at H; exact H) | (simp only [wF] at H ⊢; exact H)
                              have aeP : ((IntKind.u64.wrap ((IntKind.u64.wrap ((IntKind.u64.wrap ((IntKind.u64.wrap ((IntKind.u64.wrap ((IntKind.u64.wrap ((Go.bits .or .u64 (jP) (mF)) * 4294967296)) + ((jE) / 4294967296))) - (IntKind.u64.wrap (jo * dN)))) * 4294967296)) + (Go.bits .and .u64 (jE) 4294967295))) - (IntKind.u64.wrap ((IntKind.u64.wrap (mD - 1)) * dN)))) / 2 ^ min jm.toNat 64) = pF := wF
                              have aeN : jm ≤ 64 → ((IntKind.u64.wrap ((IntKind.u64.wrap ((IntKind.u64.wrap ((IntKind.u64.wrap ((IntKind.u64.wrap ((IntKind.u64.wrap ((Go.bits .or .u64 (jP) (mF)) * 4294967296)) + ((jE) / 4294967296))) - (IntKind.u64.wrap (jo * dN)))) * 4294967296)) + (Go.bits .and .u64 (jE) 4294967295))) - (IntKind.u64.wrap ((IntKind.u64.wrap (mD - 1)) * dN)))) / 2 ^ jm.toNat) = pF := yt wF
                              simp only [Option.some.injEq, Prod.mk.injEq] at H
                              obtain ⟨rfl, rfl⟩ := H
                              go_wp2
                              repeat (go_quiet (fail); try go_wp2)
                              go_ret2
                              exact ⟨by first | rfl | (simp; done) | (simp only [← Qr, ← pJ, ← tY, ← I4, ← tV, ← pI, ← wF] <;> (first | rfl | simp)) | (simp [*]; done), by repeat (first | exact bY.refl _ | apply bY.step)⟩
                            · rw [if_neg c29] at H
                              exact absurd H (by simp)
                          · rw [if_neg c28] at H
                            have V9 : decide (4294967296 ≤ (IntKind.u64.wrap (xk + ((dN) / 4294967296)))) = false := decide_eq_false c28
                            clear c28
                            have H' := aj.mk H
                            clear H
                            go_wp2
                            repeat (go_quiet (fail); try go_wp2)
                            go_roundg aes
                            case measure => have := Vx.out; have := Ie.out; have := abo.out; omega
                            case rel => exact ⟨(IntKind.u64.wrap (xk + ((dN) / 4294967296))), (IntKind.u64.wrap (mD - 1)), (by first | rfl | (simp; done) | (simp only [← pJ] <;> (first | rfl | simp)) | (simp [*]; done)), (by first | rfl | (simp; done) | (simp [*]; done)), H', ⟨by have := Vx.out; have := Ie.out; have := abo.out; omega⟩, by repeat (first | exact bY.refl _ | apply bY.step)⟩
                        · replace ML := Bool.eq_false_iff.mpr ML
                          subst ML
                          have H1 : (if 0 ≤ jm then (some (IntKind.u64.wrap ((IntKind.u64.wrap (jo * 4294967296)) + mD), shr .u64 (IntKind.u64.wrap ((IntKind.u64.wrap ((IntKind.u64.wrap ((IntKind.u64.wrap ((IntKind.u64.wrap ((IntKind.u64.wrap ((Go.bits .or .u64 (jP) (mF)) * 4294967296)) + ((jE) / 4294967296))) - (IntKind.u64.wrap (jo * dN)))) * 4294967296)) + (Go.bits .and .u64 (jE) 4294967295))) - (IntKind.u64.wrap (mD * dN)))) jm)) else (none)) = some (r1, r2) := by rw [if_neg (show ¬ (false = true) by decide)] at H; exact H
                          clear H
                          have H := H1
                          clear H1
                          by_cases c31 : 0 ≤ jm
                          · rw [if_pos c31] at H
                            have ZY := eq_true c31
                            have aht : decide (0 ≤ jm) = true := decide_eq_true c31
                            clear c31
                            obtain ⟨WY, IY⟩ : ∃ j_ : Int, (shr .u64 (IntKind.u64.wrap ((IntKind.u64.wrap ((IntKind.u64.wrap ((IntKind.u64.wrap ((IntKind.u64.wrap ((IntKind.u64.wrap ((Go.bits .or .u64 (jP) (mF)) * 4294967296)) + ((jE) / 4294967296))) - (IntKind.u64.wrap (jo * dN)))) * 4294967296)) + (Go.bits .and .u64 (jE) 4294967295))) - (IntKind.u64.wrap (mD * dN)))) jm) = j_ := ⟨_, rfl⟩
                            replace H : (some (IntKind.u64.wrap ((IntKind.u64.wrap (jo * 4294967296)) + mD), WY)) = some (r1, r2) := by first | (rw [IY] at H; exact H) | (simp only [IY] at H ⊢; exact H)
                            have aeM : ((IntKind.u64.wrap ((IntKind.u64.wrap ((IntKind.u64.wrap ((IntKind.u64.wrap ((IntKind.u64.wrap ((IntKind.u64.wrap ((Go.bits .or .u64 (jP) (mF)) * 4294967296)) + ((jE) / 4294967296))) - (IntKind.u64.wrap (jo * dN)))) * 4294967296)) + (Go.bits .and .u64 (jE) 4294967295))) - (IntKind.u64.wrap (mD * dN)))) / 2 ^ min jm.toNat 64) = WY := IY
                            have aeL : jm ≤ 64 → ((IntKind.u64.wrap ((IntKind.u64.wrap ((IntKind.u64.wrap ((IntKind.u64.wrap ((IntKind.u64.wrap ((IntKind.u64.wrap ((Go.bits .or .u64 (jP) (mF)) * 4294967296)) + ((jE) / 4294967296))) - (IntKind.u64.wrap (jo * dN)))) * 4294967296)) + (Go.bits .and .u64 (jE) 4294967295))) - (IntKind.u64.wrap (mD * dN)))) / 2 ^ jm.toNat) = WY := yt IY
                            simp only [Option.some.injEq, Prod.mk.injEq] at H
                            obtain ⟨rfl, rfl⟩ := H
                            go_wp2
                            repeat (go_quiet (fail); try go_wp2)
                            go_ret2
                            exact ⟨by first | rfl | (simp; done) | (simp only [← Qr, ← pJ, ← tY, ← I4, ← tV, ← pI, ← IY] <;> (first | rfl | simp)) | (simp [*]; done), by repeat (first | exact bY.refl _ | apply bY.step)⟩
                          · rw [if_neg c31] at H
                            exact absurd H (by simp)
         · rw [if_neg c14] at H
           exact absurd H (by simp)
       · rw [if_neg c9] at H
         exact absurd H (by simp)
def nN.f (k : Nat) (a0 : Int) (a1 : Int) : Option (Int × Bool) := (b_.f a0 a1).bind fun gq => (if gq.2.1 = 0 then (if gq.1 > 0 then (some (70368744177663, true)) else (if gq.1 < 0 then (some ((-70368744177664), true)) else (some (0, true)))) else ((bF.f gq.1).bind fun t124 => ((bF.f gq.2.1).bind fun t125 => (if (t124 / 1099511627776) ≥ t125 then ((aX.f 1 0 ((decide (gq.1 < 0)) != (decide (gq.2.1 < 0)))).bind fun xX => (some (xX.1, true))) else ((aW.f k (t124 / 1099511627776) (IntKind.u64.wrap (t124 * 16777216)) t125).bind fun fB => (if fB.2 > (IntKind.u64.wrap (t125 - fB.2)) then ((aX.f 0 (IntKind.u64.wrap (fB.1 + 1)) ((decide (gq.1 < 0)) != (decide (gq.2.1 < 0)))).bind fun kC => (if gq.2.2 = true then (some (kC.1, true)) else (some (kC.1, kC.2)))) else (if fB.2 = (IntKind.u64.wrap (t125 - fB.2)) then (if (Go.bits .and .u64 fB.1 1) = 1 then ((aX.f 0 (IntKind.u64.wrap (fB.1 + 1)) ((decide (gq.1 < 0)) != (decide (gq.2.1 < 0)))).bind fun ku => (if gq.2.2 = true then (some (ku.1, true)) else (some (ku.1, ku.2)))) else ((aX.f 0 fB.1 ((decide (gq.1 < 0)) != (decide (gq.2.1 < 0)))).bind fun jZ => (if gq.2.2 = true then (some (jZ.1, true)) else (some (jZ.1, jZ.2))))) else ((aX.f 0 fB.1 ((decide (gq.1 < 0)) != (decide (gq.2.1 < 0)))).bind fun jY => (if gq.2.2 = true then (some (jY.1, true)) else (some (jY.1, jY.2)))))))))))
theorem nN.calls (k : Nat) (a0 : Int) (a1 : Int) (r1 : Int) (r2 : Bool) (w : World) (h : nN.f k a0 a1 = some (r1, r2)) :
 Calls Tryz.prog 144 #[.int .i64 a0, .int .i64 a1] w fun e w' => e = .returned (.tuple #[.int .i64 r1, .bool r2]) ∧ Below w.heap.size w w' := by
 have HB := aj.mk (Below.refl w.heap.size w)
 have H : ((b_.f a0 a1).bind fun gq => (if gq.2.1 = 0 then (if gq.1 > 0 then (some (70368744177663, true)) else (if gq.1 < 0 then (some ((-70368744177664), true)) else (some (0, true)))) else ((bF.f gq.1).bind fun t124 => ((bF.f gq.2.1).bind fun t125 => (if (t124 / 1099511627776) ≥ t125 then ((aX.f 1 0 ((decide (gq.1 < 0)) != (decide (gq.2.1 < 0)))).bind fun xX => (some (xX.1, true))) else ((aW.f k (t124 / 1099511627776) (IntKind.u64.wrap (t124 * 16777216)) t125).bind fun fB => (if fB.2 > (IntKind.u64.wrap (t125 - fB.2)) then ((aX.f 0 (IntKind.u64.wrap (fB.1 + 1)) ((decide (gq.1 < 0)) != (decide (gq.2.1 < 0)))).bind fun kC => (if gq.2.2 = true then (some (kC.1, true)) else (some (kC.1, kC.2)))) else (if fB.2 = (IntKind.u64.wrap (t125 - fB.2)) then (if (Go.bits .and .u64 fB.1 1) = 1 then ((aX.f 0 (IntKind.u64.wrap (fB.1 + 1)) ((decide (gq.1 < 0)) != (decide (gq.2.1 < 0)))).bind fun ku => (if gq.2.2 = true then (some (ku.1, true)) else (some (ku.1, ku.2)))) else ((aX.f 0 fB.1 ((decide (gq.1 < 0)) != (decide (gq.2.1 < 0)))).bind fun jZ => (if gq.2.2 = true then (some (jZ.1, true)) else (some (jZ.1, jZ.2))))) else ((aX.f 0 fB.1 ((decide (gq.1 < 0)) != (decide (gq.2.1 < 0)))).bind fun jY => (if gq.2.2 = true then (some (jY.1, true)) else (some (jY.1, jY.2)))))))))))) = some (r1, r2) := h
 clear h
 replace H := Option.bind_eq_some_iff.mp H
 obtain ⟨⟨t121, t122, t123⟩, zN, H⟩ := H
 replace H : (if t122 = 0 then (if t121 > 0 then (some (70368744177663, true)) else (if t121 < 0 then (some ((-70368744177664), true)) else (some (0, true)))) else ((bF.f t121).bind fun t124 => ((bF.f t122).bind fun t125 => (if (t124 / 1099511627776) ≥ t125 then ((aX.f 1 0 ((decide (t121 < 0)) != (decide (t122 < 0)))).bind fun xX => (some (xX.1, true))) else ((aW.f k (t124 / 1099511627776) (IntKind.u64.wrap (t124 * 16777216)) t125).bind fun fB => (if fB.2 > (IntKind.u64.wrap (t125 - fB.2)) then ((aX.f 0 (IntKind.u64.wrap (fB.1 + 1)) ((decide (t121 < 0)) != (decide (t122 < 0)))).bind fun kC => (if t123 = true then (some (kC.1, true)) else (some (kC.1, kC.2)))) else (if fB.2 = (IntKind.u64.wrap (t125 - fB.2)) then (if (Go.bits .and .u64 fB.1 1) = 1 then ((aX.f 0 (IntKind.u64.wrap (fB.1 + 1)) ((decide (t121 < 0)) != (decide (t122 < 0)))).bind fun ku => (if t123 = true then (some (ku.1, true)) else (some (ku.1, ku.2)))) else ((aX.f 0 fB.1 ((decide (t121 < 0)) != (decide (t122 < 0)))).bind fun jZ => (if t123 = true then (some (jZ.1, true)) else (some (jZ.1, jZ.2))))) else ((aX.f 0 fB.1 ((decide (t121 < 0)) != (decide (t122 < 0)))).bind fun jY => (if t123 = true then (some (jY.1, true)) else (some (jY.1, jY.2))))))))))) = some (r1, r2) := H
 have A3 := aj.mk zN
 clear zN
 by_cases c4 : t122 = 0
 · rw [if_pos c4] at H
   have rP : (t122 == 0) = true := beq_iff_eq.mpr c4
   have La : (t122 != 0) = false := bne_eq_false_iff_eq.mpr c4
   clear c4
   by_cases c5 : t121 > 0
   · rw [if_pos c5] at H
     have zU : decide (0 < t121) = true := decide_eq_true c5
     clear c5
     simp only [Option.some.injEq, Prod.mk.injEq] at H
     obtain ⟨rfl, rfl⟩ := H
     go_enter Tryz.func144, Tryz.ntmps144
     go_wp2_with (first | ((with_reducible refine aK (f := 146) rfl ?_); refine bC (some 21) rfl rfl Tryz.func146 (by kernel_rfl) rfl #[.int .i64 a0, .int .i64 a1] rfl (by (try simp only [List.map_toArray, List.map_cons, List.map_nil]); first | done | rfl | (simp only [List.length_drop, List.length_take]; rfl)) ?_; (with_reducible refine (b_.calls a0 a1 t121 t122 t123 _ A3.out).mono ?_); rintro e w6 ⟨rfl, hb⟩; refine ⟨_, rfl, ?_⟩; have bK := aj.mk (aV (by repeat (first | (with_reducible first | exact HB.out | apply ak | apply ah | apply au) | exact HB.out)) hb); clear HB; have HB := bK; clear bK; (try clear hb); (try clear hb2); (try clear hk); (try clear hi)))
     go_ret2
     exact ⟨by first | rfl | (simp [aU, aT] <;> rfl) | (simp [*, aU, aT] <;> rfl), by repeat (first | (with_reducible first | exact HB.out | apply ak | apply ah | apply au) | exact HB.out)⟩
   · rw [if_neg c5] at H
     have zU : decide (0 < t121) = false := decide_eq_false c5
     clear c5
     by_cases c7 : t121 < 0
     · rw [if_pos c7] at H
       have vZ : decide (t121 < 0) = true := decide_eq_true c7
       clear c7
       simp only [Option.some.injEq, Prod.mk.injEq] at H
       obtain ⟨rfl, rfl⟩ := H
       go_enter Tryz.func144, Tryz.ntmps144
       go_wp2_with (first | ((with_reducible refine aK (f := 146) rfl ?_); refine bC (some 21) rfl rfl Tryz.func146 (by kernel_rfl) rfl #[.int .i64 a0, .int .i64 a1] rfl (by (try simp only [List.map_toArray, List.map_cons, List.map_nil]); first | done | rfl | (simp only [List.length_drop, List.length_take]; rfl)) ?_; (with_reducible refine (b_.calls a0 a1 t121 t122 t123 _ A3.out).mono ?_); rintro e w8 ⟨rfl, hb⟩; refine ⟨_, rfl, ?_⟩; have bK := aj.mk (aV (by repeat (first | (with_reducible first | exact HB.out | apply ak | apply ah | apply au) | exact HB.out)) hb); clear HB; have HB := bK; clear bK; (try clear hb); (try clear hb2); (try clear hk); (try clear hi)))
       go_ret2
       exact ⟨by first | rfl | (simp [aU, aT] <;> rfl) | (simp [*, aU, aT] <;> rfl), by repeat (first | (with_reducible first | exact HB.out | apply ak | apply ah | apply au) | exact HB.out)⟩
     · rw [if_neg c7] at H
       have vZ : decide (t121 < 0) = false := decide_eq_false c7
       clear c7
       simp only [Option.some.injEq, Prod.mk.injEq] at H
       obtain ⟨rfl, rfl⟩ := H
       go_enter Tryz.func144, Tryz.ntmps144
       go_wp2_with (first | ((with_reducible refine aK (f := 146) rfl ?_); refine bC (some 21) rfl rfl Tryz.func146 (by kernel_rfl) rfl #[.int .i64 a0, .int .i64 a1] rfl (by (try simp only [List.map_toArray, List.map_cons, List.map_nil]); first | done | rfl | (simp only [List.length_drop, List.length_take]; rfl)) ?_; (with_reducible refine (b_.calls a0 a1 t121 t122 t123 _ A3.out).mono ?_); rintro e w9 ⟨rfl, hb⟩; refine ⟨_, rfl, ?_⟩; have bK := aj.mk (aV (by repeat (first | (with_reducible first | exact HB.out | apply ak | apply ah | apply au) | exact HB.out)) hb); clear HB; have HB := bK; clear bK; (try clear hb); (try clear hb2); (try clear hk); (try clear hi)))
       go_ret2
       exact ⟨by first | rfl | (simp [aU, aT] <;> rfl) | (simp [*, aU, aT] <;> rfl), by repeat (first | (with_reducible first | exact HB.out | apply ak | apply ah | apply au) | exact HB.out)⟩
 · rw [if_neg c4] at H
   have rP : (t122 == 0) = false := beq_eq_false_iff_ne.mpr c4
   have La : (t122 != 0) = true := bne_iff_ne.mpr c4
   replace H := Option.bind_eq_some_iff.mp H
   obtain ⟨t124, abY, H⟩ := H
   replace H : ((bF.f t122).bind fun t125 => (if (t124 / 1099511627776) ≥ t125 then ((aX.f 1 0 ((decide (t121 < 0)) != (decide (t122 < 0)))).bind fun xX => (some (xX.1, true))) else ((aW.f k (t124 / 1099511627776) (IntKind.u64.wrap (t124 * 16777216)) t125).bind fun fB => (if fB.2 > (IntKind.u64.wrap (t125 - fB.2)) then ((aX.f 0 (IntKind.u64.wrap (fB.1 + 1)) ((decide (t121 < 0)) != (decide (t122 < 0)))).bind fun kC => (if t123 = true then (some (kC.1, true)) else (some (kC.1, kC.2)))) else (if fB.2 = (IntKind.u64.wrap (t125 - fB.2)) then (if (Go.bits .and .u64 fB.1 1) = 1 then ((aX.f 0 (IntKind.u64.wrap (fB.1 + 1)) ((decide (t121 < 0)) != (decide (t122 < 0)))).bind fun ku => (if t123 = true then (some (ku.1, true)) else (some (ku.1, ku.2)))) else ((aX.f 0 fB.1 ((decide (t121 < 0)) != (decide (t122 < 0)))).bind fun jZ => (if t123 = true then (some (jZ.1, true)) else (some (jZ.1, jZ.2))))) else ((aX.f 0 fB.1 ((decide (t121 < 0)) != (decide (t122 < 0)))).bind fun jY => (if t123 = true then (some (jY.1, true)) else (some (jY.1, jY.2))))))))) = some (r1, r2) := H
   have VB := aj.mk abY
   clear abY
   replace H := Option.bind_eq_some_iff.mp H
   obtain ⟨t125, abX, H⟩ := H
   replace H : (if (t124 / 1099511627776) ≥ t125 then ((aX.f 1 0 ((decide (t121 < 0)) != (decide (t122 < 0)))).bind fun xX => (some (xX.1, true))) else ((aW.f k (t124 / 1099511627776) (IntKind.u64.wrap (t124 * 16777216)) t125).bind fun fB => (if fB.2 > (IntKind.u64.wrap (t125 - fB.2)) then ((aX.f 0 (IntKind.u64.wrap (fB.1 + 1)) ((decide (t121 < 0)) != (decide (t122 < 0)))).bind fun kC => (if t123 = true then (some (kC.1, true)) else (some (kC.1, kC.2)))) else (if fB.2 = (IntKind.u64.wrap (t125 - fB.2)) then (if (Go.bits .and .u64 fB.1 1) = 1 then ((aX.f 0 (IntKind.u64.wrap (fB.1 + 1)) ((decide (t121 < 0)) != (decide (t122 < 0)))).bind fun ku => (if t123 = true then (some (ku.1, true)) else (some (ku.1, ku.2)))) else ((aX.f 0 fB.1 ((decide (t121 < 0)) != (decide (t122 < 0)))).bind fun jZ => (if t123 = true then (some (jZ.1, true)) else (some (jZ.1, jZ.2))))) else ((aX.f 0 fB.1 ((decide (t121 < 0)) != (decide (t122 < 0)))).bind fun jY => (if t123 = true then (some (jY.1, true)) else (some (jY.1, jY.2)))))))) = some (r1, r2) := H
   have VA := aj.mk abX
   clear abX
   by_cases c12 : (t124 / 1099511627776) ≥ t125
   · rw [if_pos c12] at H
     have aab : decide (t125 ≤ (t124 / 1099511627776)) = true := decide_eq_true c12
     clear c12
     replace H := Option.bind_eq_some_iff.mp H
     obtain ⟨⟨t126, t127⟩, abW, H⟩ := H
     replace H : (some (t126, true)) = some (r1, r2) := H
     have A13 := aj.mk abW
     clear abW
     simp only [Option.some.injEq, Prod.mk.injEq] at H
     obtain ⟨rfl, rfl⟩ := H
     go_enter Tryz.func144, Tryz.ntmps144
     go_wp2_with (first | ((with_reducible refine aK (f := 146) rfl ?_); refine bC (some 21) rfl rfl Tryz.func146 (by kernel_rfl) rfl #[.int .i64 a0, .int .i64 a1] rfl (by (try simp only [List.map_toArray, List.map_cons, List.map_nil]); first | done | rfl | (simp only [List.length_drop, List.length_take]; rfl)) ?_; (with_reducible refine (b_.calls a0 a1 t121 t122 t123 _ A3.out).mono ?_); rintro e Yz ⟨rfl, hb⟩; refine ⟨_, rfl, ?_⟩; have bK := aj.mk (aV (by repeat (first | (with_reducible first | exact HB.out | apply ak | apply ah | apply au) | exact HB.out)) hb); clear HB; have HB := bK; clear bK; (try clear hb); (try clear hb2); (try clear hk); (try clear hi)) | ((with_reducible refine aK (f := 148) rfl ?_); refine bC (some 39) rfl rfl Tryz.func148 (by kernel_rfl) rfl #[.int .i64 t121] rfl (by (try simp only [List.map_toArray, List.map_cons, List.map_nil]); first | done | rfl | (simp only [List.length_drop, List.length_take]; rfl)) ?_; (with_reducible refine (bF.calls t121 t124 _ VB.out).mono ?_); rintro e w' ⟨rfl, ⟨nd, rfl⟩⟩; refine ⟨_, rfl, ?_⟩) | ((with_reducible refine aK (f := 148) rfl ?_); refine bC (some 41) rfl rfl Tryz.func148 (by kernel_rfl) rfl #[.int .i64 t122] rfl (by (try simp only [List.map_toArray, List.map_cons, List.map_nil]); first | done | rfl | (simp only [List.length_drop, List.length_take]; rfl)) ?_; (with_reducible refine (bF.calls t122 t125 _ VA.out).mono ?_); rintro e w' ⟨rfl, ⟨nd, rfl⟩⟩; refine ⟨_, rfl, ?_⟩) | ((with_reducible refine aK (f := 149) rfl ?_); refine bC (some 51) rfl rfl Tryz.func149 (by kernel_rfl) rfl #[.int .u64 1, .int .u64 0, .bool ((decide (t121 < 0)) != (decide (t122 < 0)))] rfl (by (try simp only [List.map_toArray, List.map_cons, List.map_nil]); first | done | rfl | (simp only [List.length_drop, List.length_take]; rfl)) ?_; (with_reducible refine (aX.calls 1 0 ((decide (t121 < 0)) != (decide (t122 < 0))) t126 t127 _ A13.out).mono ?_); rintro e w15 ⟨rfl, hb⟩; refine ⟨_, rfl, ?_⟩; have bK := aj.mk (aV (by repeat (first | (with_reducible first | exact HB.out | apply ak | apply ah | apply au) | exact HB.out)) hb); clear HB; have HB := bK; clear bK; (try clear hb); (try clear hb2); (try clear hk); (try clear hi)))
     go_ret2
     exact ⟨by first | rfl | (simp [aU, aT] <;> rfl) | (simp [*, aU, aT] <;> rfl), by repeat (first | (with_reducible first | exact HB.out | apply ak | apply ah | apply au) | exact HB.out)⟩
   · rw [if_neg c12] at H
     have aab : decide (t125 ≤ (t124 / 1099511627776)) = false := decide_eq_false c12
     clear c12
     replace H := Option.bind_eq_some_iff.mp H
     obtain ⟨⟨t128, t129⟩, JB, H⟩ := H
     replace H : (if t129 > (IntKind.u64.wrap (t125 - t129)) then ((aX.f 0 (IntKind.u64.wrap (t128 + 1)) ((decide (t121 < 0)) != (decide (t122 < 0)))).bind fun kC => (if t123 = true then (some (kC.1, true)) else (some (kC.1, kC.2)))) else (if t129 = (IntKind.u64.wrap (t125 - t129)) then (if (Go.bits .and .u64 t128 1) = 1 then ((aX.f 0 (IntKind.u64.wrap (t128 + 1)) ((decide (t121 < 0)) != (decide (t122 < 0)))).bind fun ku => (if t123 = true then (some (ku.1, true)) else (some (ku.1, ku.2)))) else ((aX.f 0 t128 ((decide (t121 < 0)) != (decide (t122 < 0)))).bind fun jZ => (if t123 = true then (some (jZ.1, true)) else (some (jZ.1, jZ.2))))) else ((aX.f 0 t128 ((decide (t121 < 0)) != (decide (t122 < 0)))).bind fun jY => (if t123 = true then (some (jY.1, true)) else (some (jY.1, jY.2)))))) = some (r1, r2) := H
     have Nv := aj.mk JB
     clear JB
     by_cases c17 : t129 > (IntKind.u64.wrap (t125 - t129))
     · rw [if_pos c17] at H
       have Z9 : decide ((IntKind.u64.wrap (t125 - t129)) < t129) = true := decide_eq_true c17
       clear c17
       replace H := Option.bind_eq_some_iff.mp H
       obtain ⟨⟨t130, t131⟩, abV, H⟩ := H
       replace H : (if t123 = true then (some (t130, true)) else (some (t130, t131))) = some (r1, r2) := H
       have vY := aj.mk abV
       clear abV
       by_cases c19 : t123 = true
       · subst c19
         rw [if_pos rfl] at H
         simp only [Option.some.injEq, Prod.mk.injEq] at H
         obtain ⟨rfl, rfl⟩ := H
         go_enter Tryz.func144, Tryz.ntmps144
         go_wp2_with (first | ((with_reducible refine aK (f := 146) rfl ?_); refine bC (some 21) rfl rfl Tryz.func146 (by kernel_rfl) rfl #[.int .i64 a0, .int .i64 a1] rfl (by (try simp only [List.map_toArray, List.map_cons, List.map_nil]); first | done | rfl | (simp only [List.length_drop, List.length_take]; rfl)) ?_; (with_reducible refine (b_.calls a0 a1 t121 t122 true _ A3.out).mono ?_); rintro e w20 ⟨rfl, hb⟩; refine ⟨_, rfl, ?_⟩; have bK := aj.mk (aV (by repeat (first | (with_reducible first | exact HB.out | apply ak | apply ah | apply au) | exact HB.out)) hb); clear HB; have HB := bK; clear bK; (try clear hb); (try clear hb2); (try clear hk); (try clear hi)) | ((with_reducible refine aK (f := 148) rfl ?_); refine bC (some 39) rfl rfl Tryz.func148 (by kernel_rfl) rfl #[.int .i64 t121] rfl (by (try simp only [List.map_toArray, List.map_cons, List.map_nil]); first | done | rfl | (simp only [List.length_drop, List.length_take]; rfl)) ?_; (with_reducible refine (bF.calls t121 t124 _ VB.out).mono ?_); rintro e w' ⟨rfl, ⟨nd, rfl⟩⟩; refine ⟨_, rfl, ?_⟩) | ((with_reducible refine aK (f := 148) rfl ?_); refine bC (some 41) rfl rfl Tryz.func148 (by kernel_rfl) rfl #[.int .i64 t122] rfl (by (try simp only [List.map_toArray, List.map_cons, List.map_nil]); first | done | rfl | (simp only [List.length_drop, List.length_take]; rfl)) ?_; (with_reducible refine (bF.calls t122 t125 _ VA.out).mono ?_); rintro e w' ⟨rfl, ⟨nd, rfl⟩⟩; refine ⟨_, rfl, ?_⟩) | ((with_reducible refine aK (f := 184) rfl ?_); refine bC (some 59) rfl rfl Tryz.func184 (by kernel_rfl) rfl #[.int .u64 (t124 / 1099511627776), .int .u64 (IntKind.u64.wrap (t124 * 16777216)), .int .u64 t125] rfl (by (try simp only [List.map_toArray, List.map_cons, List.map_nil]); first | done | rfl | (simp only [List.length_drop, List.length_take]; rfl)) ?_; (with_reducible refine (aW.calls k (t124 / 1099511627776) (IntKind.u64.wrap (t124 * 16777216)) t125 t128 t129 _ Nv.out).mono ?_); rintro e w' ⟨rfl, ⟨nd, rfl⟩⟩; refine ⟨_, rfl, ?_⟩) | ((with_reducible refine aK (f := 149) rfl ?_); refine bC (some 84) rfl rfl Tryz.func149 (by kernel_rfl) rfl #[.int .u64 0, .int .u64 (IntKind.u64.wrap (t128 + 1)), .bool ((decide (t121 < 0)) != (decide (t122 < 0)))] rfl (by (try simp only [List.map_toArray, List.map_cons, List.map_nil]); first | done | rfl | (simp only [List.length_drop, List.length_take]; rfl)) ?_; (with_reducible refine (aX.calls 0 (IntKind.u64.wrap (t128 + 1)) ((decide (t121 < 0)) != (decide (t122 < 0))) t130 t131 _ vY.out).mono ?_); rintro e VD ⟨rfl, hb⟩; refine ⟨_, rfl, ?_⟩; have bK := aj.mk (aV (by repeat (first | (with_reducible first | exact HB.out | apply ak | apply ah | apply au) | exact HB.out)) hb); clear HB; have HB := bK; clear bK; (try clear hb); (try clear hb2); (try clear hk); (try clear hi)))
         go_ret2
         exact ⟨by first | rfl | (simp [aU, aT] <;> rfl) | (simp [*, aU, aT] <;> rfl), by repeat (first | (with_reducible first | exact HB.out | apply ak | apply ah | apply au) | exact HB.out)⟩
       · replace c19 := Bool.eq_false_iff.mpr c19
         subst c19
         have H1 : (some (t130, t131)) = some (r1, r2) := by rw [if_neg (show ¬ (false = true) by decide)] at H; exact H
         clear H
         have H := H1
         clear H1
         simp only [Option.some.injEq, Prod.mk.injEq] at H
         obtain ⟨rfl, rfl⟩ := H
         go_enter Tryz.func144, Tryz.ntmps144
         go_wp2_with (first | ((with_reducible refine aK (f := 146) rfl ?_); refine bC (some 21) rfl rfl Tryz.func146 (by kernel_rfl) rfl #[.int .i64 a0, .int .i64 a1] rfl (by (try simp only [List.map_toArray, List.map_cons, List.map_nil]); first | done | rfl | (simp only [List.length_drop, List.length_take]; rfl)) ?_; (with_reducible refine (b_.calls a0 a1 t121 t122 false _ A3.out).mono ?_); rintro e w22 ⟨rfl, hb⟩; refine ⟨_, rfl, ?_⟩; have bK := aj.mk (aV (by repeat (first | (with_reducible first | exact HB.out | apply ak | apply ah | apply au) | exact HB.out)) hb); clear HB; have HB := bK; clear bK; (try clear hb); (try clear hb2); (try clear hk); (try clear hi)) | ((with_reducible refine aK (f := 148) rfl ?_); refine bC (some 39) rfl rfl Tryz.func148 (by kernel_rfl) rfl #[.int .i64 t121] rfl (by (try simp only [List.map_toArray, List.map_cons, List.map_nil]); first | done | rfl | (simp only [List.length_drop, List.length_take]; rfl)) ?_; (with_reducible refine (bF.calls t121 t124 _ VB.out).mono ?_); rintro e w' ⟨rfl, ⟨nd, rfl⟩⟩; refine ⟨_, rfl, ?_⟩) | ((with_reducible refine aK (f := 148) rfl ?_); refine bC (some 41) rfl rfl Tryz.func148 (by kernel_rfl) rfl #[.int .i64 t122] rfl (by (try simp only [List.map_toArray, List.map_cons, List.map_nil]); first | done | rfl | (simp only [List.length_drop, List.length_take]; rfl)) ?_; (with_reducible refine (bF.calls t122 t125 _ VA.out).mono ?_); rintro e w' ⟨rfl, ⟨nd, rfl⟩⟩; refine ⟨_, rfl, ?_⟩) | ((with_reducible refine aK (f := 184) rfl ?_); refine bC (some 59) rfl rfl Tryz.func184 (by kernel_rfl) rfl #[.int .u64 (t124 / 1099511627776), .int .u64 (IntKind.u64.wrap (t124 * 16777216)), .int .u64 t125] rfl (by (try simp only [List.map_toArray, List.map_cons, List.map_nil]); first | done | rfl | (simp only [List.length_drop, List.length_take]; rfl)) ?_; (with_reducible refine (aW.calls k (t124 / 1099511627776) (IntKind.u64.wrap (t124 * 16777216)) t125 t128 t129 _ Nv.out).mono ?_); rintro e w' ⟨rfl, ⟨nd, rfl⟩⟩; refine ⟨_, rfl, ?_⟩) | ((with_reducible refine aK (f := 149) rfl ?_); refine bC (some 84) rfl rfl Tryz.func149 (by kernel_rfl) rfl #[.int .u64 0, .int .u64 (IntKind.u64.wrap (t128 + 1)), .bool ((decide (t121 < 0)) != (decide (t122 < 0)))] rfl (by (try simp only [List.map_toArray, List.map_cons, List.map_nil]); first | done | rfl | (simp only [List.length_drop, List.length_take]; rfl)) ?_; (with_reducible refine (aX.calls 0 (IntKind.u64.wrap (t128 + 1)) ((decide (t121 < 0)) != (decide (t122 < 0))) t130 t131 _ vY.out).mono ?_); rintro e w23 ⟨rfl, hb⟩; refine ⟨_, rfl, ?_⟩; have bK := aj.mk (aV (by repeat (first | (with_reducible first | exact HB.out | apply ak | apply ah | apply au) | exact HB.out)) hb); clear HB; have HB := bK; clear bK; (try clear hb); (try clear hb2); (try clear hk); (try clear hi)))
         go_ret2
         exact ⟨by first | rfl | (simp [aU, aT] <;> rfl) | (simp [*, aU, aT] <;> rfl), by repeat (first | (with_reducible first | exact HB.out | apply ak | apply ah | apply au) | exact HB.out)⟩
     · rw [if_neg c17] at H
       have Z9 : decide ((IntKind.u64.wrap (t125 - t129)) < t129) = false := decide_eq_false c17
       clear c17
       by_cases c24 : t129 = (IntKind.u64.wrap (t125 - t129))
       · rw [if_pos c24] at H
         have MN : (t129 == (IntKind.u64.wrap (t125 - t129))) = true := beq_iff_eq.mpr c24
         have MM : (t129 != (IntKind.u64.wrap (t125 - t129))) = false := bne_eq_false_iff_eq.mpr c24
         clear c24
         by_cases c25 : (Go.bits .and .u64 t128 1) = 1
         · rw [if_pos c25] at H
           have Z5 : ((Go.bits .and .u64 t128 1) == 1) = true := beq_iff_eq.mpr c25
           have Z4 : ((Go.bits .and .u64 t128 1) != 1) = false := bne_eq_false_iff_eq.mpr c25
           clear c25
           replace H := Option.bind_eq_some_iff.mp H
           obtain ⟨⟨t132, t133⟩, abS, H⟩ := H
           replace H : (if t123 = true then (some (t132, true)) else (some (t132, t133))) = some (r1, r2) := H
           have A26 := aj.mk abS
           clear abS
           by_cases ML : t123 = true
           · subst ML
             rw [if_pos rfl] at H
             simp only [Option.some.injEq, Prod.mk.injEq] at H
             obtain ⟨rfl, rfl⟩ := H
             go_enter Tryz.func144, Tryz.ntmps144
             go_wp2_with (first | ((with_reducible refine aK (f := 146) rfl ?_); refine bC (some 21) rfl rfl Tryz.func146 (by kernel_rfl) rfl #[.int .i64 a0, .int .i64 a1] rfl (by (try simp only [List.map_toArray, List.map_cons, List.map_nil]); first | done | rfl | (simp only [List.length_drop, List.length_take]; rfl)) ?_; (with_reducible refine (b_.calls a0 a1 t121 t122 true _ A3.out).mono ?_); rintro e w28 ⟨rfl, hb⟩; refine ⟨_, rfl, ?_⟩; have bK := aj.mk (aV (by repeat (first | (with_reducible first | exact HB.out | apply ak | apply ah | apply au) | exact HB.out)) hb); clear HB; have HB := bK; clear bK; (try clear hb); (try clear hb2); (try clear hk); (try clear hi)) | ((with_reducible refine aK (f := 148) rfl ?_); refine bC (some 39) rfl rfl Tryz.func148 (by kernel_rfl) rfl #[.int .i64 t121] rfl (by (try simp only [List.map_toArray, List.map_cons, List.map_nil]); first | done | rfl | (simp only [List.length_drop, List.length_take]; rfl)) ?_; (with_reducible refine (bF.calls t121 t124 _ VB.out).mono ?_); rintro e w' ⟨rfl, ⟨nd, rfl⟩⟩; refine ⟨_, rfl, ?_⟩) | ((with_reducible refine aK (f := 148) rfl ?_); refine bC (some 41) rfl rfl Tryz.func148 (by kernel_rfl) rfl #[.int .i64 t122] rfl (by (try simp only [List.map_toArray, List.map_cons, List.map_nil]); first | done | rfl | (simp only [List.length_drop, List.length_take]; rfl)) ?_; (with_reducible refine (bF.calls t122 t125 _ VA.out).mono ?_); rintro e w' ⟨rfl, ⟨nd, rfl⟩⟩; refine ⟨_, rfl, ?_⟩) | ((with_reducible refine aK (f := 184) rfl ?_); refine bC (some 59) rfl rfl Tryz.func184 (by kernel_rfl) rfl #[.int .u64 (t124 / 1099511627776), .int .u64 (IntKind.u64.wrap (t124 * 16777216)), .int .u64 t125] rfl (by (try simp only [List.map_toArray, List.map_cons, List.map_nil]); first | done | rfl | (simp only [List.length_drop, List.length_take]; rfl)) ?_; (with_reducible refine (aW.calls k (t124 / 1099511627776) (IntKind.u64.wrap (t124 * 16777216)) t125 t128 t129 _ Nv.out).mono ?_); rintro e w' ⟨rfl, ⟨nd, rfl⟩⟩; refine ⟨_, rfl, ?_⟩) | ((with_reducible refine aK (f := 149) rfl ?_); refine bC (some 84) rfl rfl Tryz.func149 (by kernel_rfl) rfl #[.int .u64 0, .int .u64 (IntKind.u64.wrap (t128 + 1)), .bool ((decide (t121 < 0)) != (decide (t122 < 0)))] rfl (by (try simp only [List.map_toArray, List.map_cons, List.map_nil]); first | done | rfl | (simp only [List.length_drop, List.length_take]; rfl)) ?_; (with_reducible refine (aX.calls 0 (IntKind.u64.wrap (t128 + 1)) ((decide (t121 < 0)) != (decide (t122 < 0))) t132 t133 _ A26.out).mono ?_); rintro e w29 ⟨rfl, hb⟩; refine ⟨_, rfl, ?_⟩; have bK := aj.mk (aV (by repeat (first | (with_reducible first | exact HB.out | apply ak | apply ah | apply au) | exact HB.out)) hb); clear HB; have HB := bK; clear bK; (try clear hb); (try clear hb2); (try clear hk); (try clear hi)))
             go_ret2
             exact ⟨by first | rfl | (simp [aU, aT] <;> rfl) | (simp [*, aU, aT] <;> rfl), by repeat (first | (with_reducible first | exact HB.out | apply ak | apply ah | apply au) | exact HB.out)⟩
           · replace ML := Bool.eq_false_iff.mpr ML
             subst ML
             have H1 : (some (t132, t133)) = some (r1, r2) := by rw [if_neg (show ¬ (false = true) by decide)] at H; exact H
             clear H
             have H := H1
             clear H1
             simp only [Option.some.injEq, Prod.mk.injEq] at H
             obtain ⟨rfl, rfl⟩ := H
             go_enter Tryz.func144, Tryz.ntmps144
             go_wp2_with (first | ((with_reducible refine aK (f := 146) rfl ?_); refine bC (some 21) rfl rfl Tryz.func146 (by kernel_rfl) rfl #[.int .i64 a0, .int .i64 a1] rfl (by (try simp only [List.map_toArray, List.map_cons, List.map_nil]); first | done | rfl | (simp only [List.length_drop, List.length_take]; rfl)) ?_; (with_reducible refine (b_.calls a0 a1 t121 t122 false _ A3.out).mono ?_); rintro e w30 ⟨rfl, hb⟩; refine ⟨_, rfl, ?_⟩; have bK := aj.mk (aV (by repeat (first | (with_reducible first | exact HB.out | apply ak | apply ah | apply au) | exact HB.out)) hb); clear HB; have HB := bK; clear bK; (try clear hb); (try clear hb2); (try clear hk); (try clear hi)) | ((with_reducible refine aK (f := 148) rfl ?_); refine bC (some 39) rfl rfl Tryz.func148 (by kernel_rfl) rfl #[.int .i64 t121] rfl (by (try simp only [List.map_toArray, List.map_cons, List.map_nil]); first | done | rfl | (simp only [List.length_drop, List.length_take]; rfl)) ?_; (with_reducible refine (bF.calls t121 t124 _ VB.out).mono ?_); rintro e w' ⟨rfl, ⟨nd, rfl⟩⟩; refine ⟨_, rfl, ?_⟩) | ((with_reducible refine aK (f := 148) rfl ?_); refine bC (some 41) rfl rfl Tryz.func148 (by kernel_rfl) rfl #[.int .i64 t122] rfl (by (try simp only [List.map_toArray, List.map_cons, List.map_nil]); first | done | rfl | (simp only [List.length_drop, List.length_take]; rfl)) ?_; (with_reducible refine (bF.calls t122 t125 _ VA.out).mono ?_); rintro e w' ⟨rfl, ⟨nd, rfl⟩⟩; refine ⟨_, rfl, ?_⟩) | ((with_reducible refine aK (f := 184) rfl ?_); refine bC (some 59) rfl rfl Tryz.func184 (by kernel_rfl) rfl #[.int .u64 (t124 / 1099511627776), .int .u64 (IntKind.u64.wrap (t124 * 16777216)), .int .u64 t125] rfl (by (try simp only [List.map_toArray, List.map_cons, List.map_nil]); first | done | rfl | (simp only [List.length_drop, List.length_take]; rfl)) ?_; (with_reducible refine (aW.calls k (t124 / 1099511627776) (IntKind.u64.wrap (t124 * 16777216)) t125 t128 t129 _ Nv.out).mono ?_); rintro e w' ⟨rfl, ⟨nd, rfl⟩⟩; refine ⟨_, rfl, ?_⟩) | ((with_reducible refine aK (f := 149) rfl ?_); refine bC (some 84) rfl rfl Tryz.func149 (by kernel_rfl) rfl #[.int .u64 0, .int .u64 (IntKind.u64.wrap (t128 + 1)), .bool ((decide (t121 < 0)) != (decide (t122 < 0)))] rfl (by (try simp only [List.map_toArray, List.map_cons, List.map_nil]); first | done | rfl | (simp only [List.length_drop, List.length_take]; rfl)) ?_; (with_reducible refine (aX.calls 0 (IntKind.u64.wrap (t128 + 1)) ((decide (t121 < 0)) != (decide (t122 < 0))) t132 t133 _ A26.out).mono ?_); rintro e w31 ⟨rfl, hb⟩; refine ⟨_, rfl, ?_⟩; have bK := aj.mk (aV (by repeat (first | (with_reducible first | exact HB.out | apply ak | apply ah | apply au) | exact HB.out)) hb); clear HB; have HB := bK; clear bK; (try clear hb); (try clear hb2); (try clear hk); (try clear hi)))
             go_ret2
             exact ⟨by first | rfl | (simp [aU, aT] <;> rfl) | (simp [*, aU, aT] <;> rfl), by repeat (first | (with_reducible first | exact HB.out | apply ak | apply ah | apply au) | exact HB.out)⟩
         · rw [if_neg c25] at H
           have Z5 : ((Go.bits .and .u64 t128 1) == 1) = false := beq_eq_false_iff_ne.mpr c25
           have Z4 : ((Go.bits .and .u64 t128 1) != 1) = true := bne_iff_ne.mpr c25
           replace H := Option.bind_eq_some_iff.mp H
           obtain ⟨⟨t134, t135⟩, abQ, H⟩ := H
           replace H : (if t123 = true then (some (t134, true)) else (some (t134, t135))) = some (r1, r2) := H
           have A32 := aj.mk abQ
           clear abQ
           by_cases PK : t123 = true
           · subst PK
             rw [if_pos rfl] at H
             simp only [Option.some.injEq, Prod.mk.injEq] at H
             obtain ⟨rfl, rfl⟩ := H
             go_enter Tryz.func144, Tryz.ntmps144
             go_wp2_with (first | ((with_reducible refine aK (f := 146) rfl ?_); refine bC (some 21) rfl rfl Tryz.func146 (by kernel_rfl) rfl #[.int .i64 a0, .int .i64 a1] rfl (by (try simp only [List.map_toArray, List.map_cons, List.map_nil]); first | done | rfl | (simp only [List.length_drop, List.length_take]; rfl)) ?_; (with_reducible refine (b_.calls a0 a1 t121 t122 true _ A3.out).mono ?_); rintro e w34 ⟨rfl, hb⟩; refine ⟨_, rfl, ?_⟩; have bK := aj.mk (aV (by repeat (first | (with_reducible first | exact HB.out | apply ak | apply ah | apply au) | exact HB.out)) hb); clear HB; have HB := bK; clear bK; (try clear hb); (try clear hb2); (try clear hk); (try clear hi)) | ((with_reducible refine aK (f := 148) rfl ?_); refine bC (some 39) rfl rfl Tryz.func148 (by kernel_rfl) rfl #[.int .i64 t121] rfl (by (try simp only [List.map_toArray, List.map_cons, List.map_nil]); first | done | rfl | (simp only [List.length_drop, List.length_take]; rfl)) ?_; (with_reducible refine (bF.calls t121 t124 _ VB.out).mono ?_); rintro e w' ⟨rfl, ⟨nd, rfl⟩⟩; refine ⟨_, rfl, ?_⟩) | ((with_reducible refine aK (f := 148) rfl ?_); refine bC (some 41) rfl rfl Tryz.func148 (by kernel_rfl) rfl #[.int .i64 t122] rfl (by (try simp only [List.map_toArray, List.map_cons, List.map_nil]); first | done | rfl | (simp only [List.length_drop, List.length_take]; rfl)) ?_; (with_reducible refine (bF.calls t122 t125 _ VA.out).mono ?_); rintro e w' ⟨rfl, ⟨nd, rfl⟩⟩; refine ⟨_, rfl, ?_⟩) | ((with_reducible refine aK (f := 184) rfl ?_); refine bC (some 59) rfl rfl Tryz.func184 (by kernel_rfl) rfl #[.int .u64 (t124 / 1099511627776), .int .u64 (IntKind.u64.wrap (t124 * 16777216)), .int .u64 t125] rfl (by (try simp only [List.map_toArray, List.map_cons, List.map_nil]); first | done | rfl | (simp only [List.length_drop, List.length_take]; rfl)) ?_; (with_reducible refine (aW.calls k (t124 / 1099511627776) (IntKind.u64.wrap (t124 * 16777216)) t125 t128 t129 _ Nv.out).mono ?_); rintro e w' ⟨rfl, ⟨nd, rfl⟩⟩; refine ⟨_, rfl, ?_⟩) | ((with_reducible refine aK (f := 149) rfl ?_); refine bC (some 84) rfl rfl Tryz.func149 (by kernel_rfl) rfl #[.int .u64 0, .int .u64 t128, .bool ((decide (t121 < 0)) != (decide (t122 < 0)))] rfl (by (try simp only [List.map_toArray, List.map_cons, List.map_nil]); first | done | rfl | (simp only [List.length_drop, List.length_take]; rfl)) ?_; (with_reducible refine (aX.calls 0 t128 ((decide (t121 < 0)) != (decide (t122 < 0))) t134 t135 _ A32.out).mono ?_); rintro e w35 ⟨rfl, hb⟩; refine ⟨_, rfl, ?_⟩; have bK := aj.mk (aV (by repeat (first | (with_reducible first | exact HB.out | apply ak | apply ah | apply au) | exact HB.out)) hb); clear HB; have HB := bK; clear bK; (try clear hb); (try clear hb2); (try clear hk); (try clear hi)))
             go_ret2
             exact ⟨by first | rfl | (simp [aU, aT] <;> rfl) | (simp [*, aU, aT] <;> rfl), by repeat (first | (with_reducible first | exact HB.out | apply ak | apply ah | apply au) | exact HB.out)⟩
           · replace PK := Bool.eq_false_iff.mpr PK
             subst PK
             have H1 : (some (t134, t135)) = some (r1, r2) := by rw [if_neg (show ¬ (false = true) by decide)] at H; exact H
             clear H
             have H := H1
             clear H1
             simp only [Option.some.injEq, Prod.mk.injEq] at H
             obtain ⟨rfl, rfl⟩ := H
             go_enter Tryz.func144, Tryz.ntmps144
             go_wp2_with (first | ((with_reducible refine aK (f := 146) rfl ?_); refine bC (some 21) rfl rfl Tryz.func146 (by kernel_rfl) rfl #[.int .i64 a0, .int .i64 a1] rfl (by (try simp only [List.map_toArray, List.map_cons, List.map_nil]); first | done | rfl | (simp only [List.length_drop, List.length_take]; rfl)) ?_; (with_reducible refine (b_.calls a0 a1 t121 t122 false _ A3.out).mono ?_); rintro e w36 ⟨rfl, hb⟩; refine ⟨_, rfl, ?_⟩; have bK := aj.mk (aV (by repeat (first | (with_reducible first | exact HB.out | apply ak | apply ah | apply au) | exact HB.out)) hb); clear HB; have HB := bK; clear bK; (try clear hb); (try clear hb2); (try clear hk); (try clear hi)) | ((with_reducible refine aK (f := 148) rfl ?_); refine bC (some 39) rfl rfl Tryz.func148 (by kernel_rfl) rfl #[.int .i64 t121] rfl (by (try simp only [List.map_toArray, List.map_cons, List.map_nil]); first | done | rfl | (simp only [List.length_drop, List.length_take]; rfl)) ?_; (with_reducible refine (bF.calls t121 t124 _ VB.out).mono ?_); rintro e w' ⟨rfl, ⟨nd, rfl⟩⟩; refine ⟨_, rfl, ?_⟩) | ((with_reducible refine aK (f := 148) rfl ?_); refine bC (some 41) rfl rfl Tryz.func148 (by kernel_rfl) rfl #[.int .i64 t122] rfl (by (try simp only [List.map_toArray, List.map_cons, List.map_nil]); first | done | rfl | (simp only [List.length_drop, List.length_take]; rfl)) ?_; (with_reducible refine (bF.calls t122 t125 _ VA.out).mono ?_); rintro e w' ⟨rfl, ⟨nd, rfl⟩⟩; refine ⟨_, rfl, ?_⟩) | ((with_reducible refine aK (f := 184) rfl ?_); refine bC (some 59) rfl rfl Tryz.func184 (by kernel_rfl) rfl #[.int .u64 (t124 / 1099511627776), .int .u64 (IntKind.u64.wrap (t124 * 16777216)), .int .u64 t125] rfl (by (try simp only [List.map_toArray, List.map_cons, List.map_nil]); first | done | rfl | (simp only [List.length_drop, List.length_take]; rfl)) ?_; (with_reducible refine (aW.calls k (t124 / 1099511627776) (IntKind.u64.wrap (t124 * 16777216)) t125 t128 t129 _ Nv.out).mono ?_); rintro e w' ⟨rfl, ⟨nd, rfl⟩⟩; refine ⟨_, rfl, ?_⟩) | ((with_reducible refine aK (f := 149) rfl ?_); refine bC (some 84) rfl rfl Tryz.func149 (by kernel_rfl) rfl #[.int .u64 0, .int .u64 t128, .bool ((decide (t121 < 0)) != (decide (t122 < 0)))] rfl (by (try simp only [List.map_toArray, List.map_cons, List.map_nil]); first | done | rfl | (simp only [List.length_drop, List.length_take]; rfl)) ?_; (with_reducible refine (aX.calls 0 t128 ((decide (t121 < 0)) != (decide (t122 < 0))) t134 t135 _ A32.out).mono ?_); rintro e w37 ⟨rfl, hb⟩; refine ⟨_, rfl, ?_⟩; have bK := aj.mk (aV (by repeat (first | (with_reducible first | exact HB.out | apply ak | apply ah | apply au) | exact HB.out)) hb); clear HB; have HB := bK; clear bK; (try clear hb); (try clear hb2); (try clear hk); (try clear hi)))
             go_ret2
             exact ⟨by first | rfl | (simp [aU, aT] <;> rfl) | (simp [*, aU, aT] <;> rfl), by repeat (first | (with_reducible first | exact HB.out | apply ak | apply ah | apply au) | exact HB.out)⟩
       · rw [if_neg c24] at H
         have MN : (t129 == (IntKind.u64.wrap (t125 - t129))) = false := beq_eq_false_iff_ne.mpr c24
         have MM : (t129 != (IntKind.u64.wrap (t125 - t129))) = true := bne_iff_ne.mpr c24
         replace H := Option.bind_eq_some_iff.mp H
         obtain ⟨⟨t136, t137⟩, abP, H⟩ := H
         replace H : (if t123 = true then (some (t136, true)) else (some (t136, t137))) = some (r1, r2) := H
         have A38 := aj.mk abP
         clear abP
         by_cases c39 : t123 = true
         · subst c39
           rw [if_pos rfl] at H
           simp only [Option.some.injEq, Prod.mk.injEq] at H
           obtain ⟨rfl, rfl⟩ := H
           go_enter Tryz.func144, Tryz.ntmps144
           go_wp2_with (first | ((with_reducible refine aK (f := 146) rfl ?_); refine bC (some 21) rfl rfl Tryz.func146 (by kernel_rfl) rfl #[.int .i64 a0, .int .i64 a1] rfl (by (try simp only [List.map_toArray, List.map_cons, List.map_nil]); first | done | rfl | (simp only [List.length_drop, List.length_take]; rfl)) ?_; (with_reducible refine (b_.calls a0 a1 t121 t122 true _ A3.out).mono ?_); rintro e w40 ⟨rfl, hb⟩; refine ⟨_, rfl, ?_⟩; have bK := aj.mk (aV (by repeat (first | (with_reducible first | exact HB.out | apply ak | apply ah | apply au) | exact HB.out)) hb); clear HB; have HB := bK; clear bK; (try clear hb); (try clear hb2); (try clear hk); (try clear hi)) | ((with_reducible refine aK (f := 148) rfl ?_); refine bC (some 39) rfl rfl Tryz.func148 (by kernel_rfl) rfl #[.int .i64 t121] rfl (by (try simp only [List.map_toArray, List.map_cons, List.map_nil]); first | done | rfl | (simp only [List.length_drop, List.length_take]; rfl)) ?_; (with_reducible refine (bF.calls t121 t124 _ VB.out).mono ?_); rintro e w' ⟨rfl, ⟨nd, rfl⟩⟩; refine ⟨_, rfl, ?_⟩) | ((with_reducible refine aK (f := 148) rfl ?_); refine bC (some 41) rfl rfl Tryz.func148 (by kernel_rfl) rfl #[.int .i64 t122] rfl (by (try simp only [List.map_toArray, List.map_cons, List.map_nil]); first | done | rfl | (simp only [List.length_drop, List.length_take]; rfl)) ?_; (with_reducible refine (bF.calls t122 t125 _ VA.out).mono ?_); rintro e w' ⟨rfl, ⟨nd, rfl⟩⟩; refine ⟨_, rfl, ?_⟩) | ((with_reducible refine aK (f := 184) rfl ?_); refine bC (some 59) rfl rfl Tryz.func184 (by kernel_rfl) rfl #[.int .u64 (t124 / 1099511627776), .int .u64 (IntKind.u64.wrap (t124 * 16777216)), .int .u64 t125] rfl (by (try simp only [List.map_toArray, List.map_cons, List.map_nil]); first | done | rfl | (simp only [List.length_drop, List.length_take]; rfl)) ?_; (with_reducible refine (aW.calls k (t124 / 1099511627776) (IntKind.u64.wrap (t124 * 16777216)) t125 t128 t129 _ Nv.out).mono ?_); rintro e w' ⟨rfl, ⟨nd, rfl⟩⟩; refine ⟨_, rfl, ?_⟩) | ((with_reducible refine aK (f := 149) rfl ?_); refine bC (some 84) rfl rfl Tryz.func149 (by kernel_rfl) rfl #[.int .u64 0, .int .u64 t128, .bool ((decide (t121 < 0)) != (decide (t122 < 0)))] rfl (by (try simp only [List.map_toArray, List.map_cons, List.map_nil]); first | done | rfl | (simp only [List.length_drop, List.length_take]; rfl)) ?_; (with_reducible refine (aX.calls 0 t128 ((decide (t121 < 0)) != (decide (t122 < 0))) t136 t137 _ A38.out).mono ?_); rintro e w41 ⟨rfl, hb⟩; refine ⟨_, rfl, ?_⟩; have bK := aj.mk (aV (by repeat (first | (with_reducible first | exact HB.out | apply ak | apply ah | apply au) | exact HB.out)) hb); clear HB; have HB := bK; clear bK; (try clear hb); (try clear hb2); (try clear hk); (try clear hi)))
           go_ret2
           exact ⟨by first | rfl | (simp [aU, aT] <;> rfl) | (simp [*, aU, aT] <;> rfl), by repeat (first | (with_reducible first | exact HB.out | apply ak | apply ah | apply au) | exact HB.out)⟩
         · replace c39 := Bool.eq_false_iff.mpr c39
           subst c39
           have H1 : (some (t136, t137)) = some (r1, r2) := by rw [if_neg (show ¬ (false = true) by decide)] at H; exact H
           clear H
           have H := H1
           clear H1
           simp only [Option.some.injEq, Prod.mk.injEq] at H
           obtain ⟨rfl, rfl⟩ := H
           go_enter Tryz.func144, Tryz.ntmps144
           go_wp2_with (first | ((with_reducible refine aK (f := 146) rfl ?_); refine bC (some 21) rfl rfl Tryz.func146 (by kernel_rfl) rfl #[.int .i64 a0, .int .i64 a1] rfl (by (try simp only [List.map_toArray, List.map_cons, List.map_nil]); first | done | rfl | (simp only [List.length_drop, List.length_take]; rfl)) ?_; (with_reducible refine (b_.calls a0 a1 t121 t122 false _ A3.out).mono ?_); rintro e w42 ⟨rfl, hb⟩; refine ⟨_, rfl, ?_⟩; have bK := aj.mk (aV (by repeat (first | (with_reducible first | exact HB.out | apply ak | apply ah | apply au) | exact HB.out)) hb); clear HB; have HB := bK; clear bK; (try clear hb); (try clear hb2); (try clear hk); (try clear hi)) | ((with_reducible refine aK (f := 148) rfl ?_); refine bC (some 39) rfl rfl Tryz.func148 (by kernel_rfl) rfl #[.int .i64 t121] rfl (by (try simp only [List.map_toArray, List.map_cons, List.map_nil]); first | done | rfl | (simp only [List.length_drop, List.length_take]; rfl)) ?_; (with_reducible refine (bF.calls t121 t124 _ VB.out).mono ?_); rintro e w' ⟨rfl, ⟨nd, rfl⟩⟩; refine ⟨_, rfl, ?_⟩) | ((with_reducible refine aK (f := 148) rfl ?_); refine bC (some 41) rfl rfl Tryz.func148 (by kernel_rfl) rfl #[.int .i64 t122] rfl (by (try simp only [List.map_toArray, List.map_cons, List.map_nil]); first | done | rfl | (simp only [List.length_drop, List.length_take]; rfl)) ?_; (with_reducible refine (bF.calls t122 t125 _ VA.out).mono ?_); rintro e w' ⟨rfl, ⟨nd, rfl⟩⟩; refine ⟨_, rfl, ?_⟩) | ((with_reducible refine aK (f := 184) rfl ?_); refine bC (some 59) rfl rfl Tryz.func184 (by kernel_rfl) rfl #[.int .u64 (t124 / 1099511627776), .int .u64 (IntKind.u64.wrap (t124 * 16777216)), .int .u64 t125] rfl (by (try simp only [List.map_toArray, List.map_cons, List.map_nil]); first | done | rfl | (simp only [List.length_drop, List.length_take]; rfl)) ?_; (with_reducible refine (aW.calls k (t124 / 1099511627776) (IntKind.u64.wrap (t124 * 16777216)) t125 t128 t129 _ Nv.out).mono ?_); rintro e w' ⟨rfl, ⟨nd, rfl⟩⟩; refine ⟨_, rfl, ?_⟩) | ((with_reducible refine aK (f := 149) rfl ?_); refine bC (some 84) rfl rfl Tryz.func149 (by kernel_rfl) rfl #[.int .u64 0, .int .u64 t128, .bool ((decide (t121 < 0)) != (decide (t122 < 0)))] rfl (by (try simp only [List.map_toArray, List.map_cons, List.map_nil]); first | done | rfl | (simp only [List.length_drop, List.length_take]; rfl)) ?_; (with_reducible refine (aX.calls 0 t128 ((decide (t121 < 0)) != (decide (t122 < 0))) t136 t137 _ A38.out).mono ?_); rintro e w43 ⟨rfl, hb⟩; refine ⟨_, rfl, ?_⟩; have bK := aj.mk (aV (by repeat (first | (with_reducible first | exact HB.out | apply ak | apply ah | apply au) | exact HB.out)) hb); clear HB; have HB := bK; clear bK; (try clear hb); (try clear hb2); (try clear hk); (try clear hi)))
           go_ret2
           exact ⟨by first | rfl | (simp [aU, aT] <;> rfl) | (simp [*, aU, aT] <;> rfl), by repeat (first | (with_reducible first | exact HB.out | apply ak | apply ah | apply au) | exact HB.out)⟩
def sZ.f (a0 : Int) (a1 : Int) : Option (Int × Bool) := (b_.f a0 a1).bind fun CZ => ((dJ.f (wrap64 (CZ.1 - CZ.2.1))).bind fun uB => (if CZ.2.2 = true then (some (uB.1, true)) else (some (uB.1, uB.2))))
theorem sZ.calls (a0 : Int) (a1 : Int) (r1 : Int) (r2 : Bool) (w : World) (h : sZ.f a0 a1 = some (r1, r2)) :
 Calls Tryz.prog 91 #[.int .i64 a0, .int .i64 a1] w fun e w' => e = .returned (.tuple #[.int .i64 r1, .bool r2]) ∧ Below w.heap.size w w' := by
 have HB := aj.mk (Below.refl w.heap.size w)
 have H : ((b_.f a0 a1).bind fun CZ => ((dJ.f (wrap64 (CZ.1 - CZ.2.1))).bind fun uB => (if CZ.2.2 = true then (some (uB.1, true)) else (some (uB.1, uB.2))))) = some (r1, r2) := h
 clear h
 replace H := Option.bind_eq_some_iff.mp H
 obtain ⟨⟨t138, t139, t140⟩, zN, H⟩ := H
 replace H : ((dJ.f (wrap64 (t138 - t139))).bind fun uB => (if t140 = true then (some (uB.1, true)) else (some (uB.1, uB.2)))) = some (r1, r2) := H
 have A3 := aj.mk zN
 clear zN
 replace H := Option.bind_eq_some_iff.mp H
 obtain ⟨⟨t141, t142⟩, JA, H⟩ := H
 replace H : (if t140 = true then (some (t141, true)) else (some (t141, t142))) = some (r1, r2) := H
 have A4 := aj.mk JA
 clear JA
 by_cases c5 : t140 = true
 · subst c5
   rw [if_pos rfl] at H
   simp only [Option.some.injEq, Prod.mk.injEq] at H
   obtain ⟨rfl, rfl⟩ := H
   go_enter Tryz.func91, Tryz.ntmps91
   go_wp2_with (first | ((with_reducible refine aK (f := 146) rfl ?_); refine bC (some 12) rfl rfl Tryz.func146 (by kernel_rfl) rfl #[.int .i64 a0, .int .i64 a1] rfl (by (try simp only [List.map_toArray, List.map_cons, List.map_nil]); first | done | rfl | (simp only [List.length_drop, List.length_take]; rfl)) ?_; (with_reducible refine (b_.calls a0 a1 t138 t139 true _ A3.out).mono ?_); rintro e w6 ⟨rfl, hb⟩; refine ⟨_, rfl, ?_⟩; have bK := aj.mk (aV (by repeat (first | (with_reducible first | exact HB.out | apply ak | apply ah | apply au) | exact HB.out)) hb); clear HB; have HB := bK; clear bK; (try clear hb); (try clear hb2); (try clear hk); (try clear hi)) | ((with_reducible refine aK (f := 137) rfl ?_); refine bC (some 20) rfl rfl Tryz.func137 (by kernel_rfl) rfl #[.int .i64 (wrap64 (t138 - t139))] rfl (by (try simp only [List.map_toArray, List.map_cons, List.map_nil]); first | done | rfl | (simp only [List.length_drop, List.length_take]; rfl)) ?_; (with_reducible refine (dJ.calls (wrap64 (t138 - t139)) t141 t142 _ A4.out).mono ?_); rintro e w7 ⟨rfl, hb⟩; refine ⟨_, rfl, ?_⟩; have bK := aj.mk (aV (by repeat (first | (with_reducible first | exact HB.out | apply ak | apply ah | apply au) | exact HB.out)) hb); clear HB; have HB := bK; clear bK; (try clear hb); (try clear hb2); (try clear hk); (try clear hi)))
   go_ret2
   exact ⟨by first | rfl | (simp [aU, aT] <;> rfl) | (simp [*, aU, aT] <;> rfl), by repeat (first | (with_reducible first | exact HB.out | apply ak | apply ah | apply au) | exact HB.out)⟩
 · replace c5 := Bool.eq_false_iff.mpr c5
   subst c5
   have H1 : (some (t141, t142)) = some (r1, r2) := by rw [if_neg (show ¬ (false = true) by decide)] at H; exact H
   clear H
   have H := H1
   clear H1
   simp only [Option.some.injEq, Prod.mk.injEq] at H
   obtain ⟨rfl, rfl⟩ := H
   go_enter Tryz.func91, Tryz.ntmps91
   go_wp2_with (first | ((with_reducible refine aK (f := 146) rfl ?_); refine bC (some 12) rfl rfl Tryz.func146 (by kernel_rfl) rfl #[.int .i64 a0, .int .i64 a1] rfl (by (try simp only [List.map_toArray, List.map_cons, List.map_nil]); first | done | rfl | (simp only [List.length_drop, List.length_take]; rfl)) ?_; (with_reducible refine (b_.calls a0 a1 t138 t139 false _ A3.out).mono ?_); rintro e w8 ⟨rfl, hb⟩; refine ⟨_, rfl, ?_⟩; have bK := aj.mk (aV (by repeat (first | (with_reducible first | exact HB.out | apply ak | apply ah | apply au) | exact HB.out)) hb); clear HB; have HB := bK; clear bK; (try clear hb); (try clear hb2); (try clear hk); (try clear hi)) | ((with_reducible refine aK (f := 137) rfl ?_); refine bC (some 20) rfl rfl Tryz.func137 (by kernel_rfl) rfl #[.int .i64 (wrap64 (t138 - t139))] rfl (by (try simp only [List.map_toArray, List.map_cons, List.map_nil]); first | done | rfl | (simp only [List.length_drop, List.length_take]; rfl)) ?_; (with_reducible refine (dJ.calls (wrap64 (t138 - t139)) t141 t142 _ A4.out).mono ?_); rintro e w9 ⟨rfl, hb⟩; refine ⟨_, rfl, ?_⟩; have bK := aj.mk (aV (by repeat (first | (with_reducible first | exact HB.out | apply ak | apply ah | apply au) | exact HB.out)) hb); clear HB; have HB := bK; clear bK; (try clear hb); (try clear hb2); (try clear hk); (try clear hi)))
   go_ret2
   exact ⟨by first | rfl | (simp [aU, aT] <;> rfl) | (simp [*, aU, aT] <;> rfl), by repeat (first | (with_reducible first | exact HB.out | apply ak | apply ah | apply au) | exact HB.out)⟩
end Go.Proofs.YtcfobekkchhbbaaGreat.PQ

namespace Go.Proofs.YtcfobekkchhbbaaGreat.PQ
open Go.RowKit Go.Proofs.af.aQ Go.Proofs.af.a_ Go.Proofs.af.bg
attribute [local go_sem] iJ iH jI jH gV gU iI iG
set_option linter.unusedVariables false
set_option linter.unusedSimpArgs false
def tC.f (a0 : Int) (a1 : Int) : Option (Int × Bool) := (b_.f a0 a1).bind fun CW => ((dJ.f (wrap64 (CW.1 + CW.2.1))).bind fun uA => (if CW.2.2 = true then (some (uA.1, true)) else (some (uA.1, uA.2))))
theorem tC.calls (a0 : Int) (a1 : Int) (r1 : Int) (r2 : Bool) (w : World) (h : tC.f a0 a1 = some (r1, r2)) :
 Calls Tryz.prog 94 #[.int .i64 a0, .int .i64 a1] w fun e w' => e = .returned (.tuple #[.int .i64 r1, .bool r2]) ∧ Below w.heap.size w w' := by
 have HB := aj.mk (Below.refl w.heap.size w)
 have H : ((b_.f a0 a1).bind fun CW => ((dJ.f (wrap64 (CW.1 + CW.2.1))).bind fun uA => (if CW.2.2 = true then (some (uA.1, true)) else (some (uA.1, uA.2))))) = some (r1, r2) := h
 clear h
 replace H := Option.bind_eq_some_iff.mp H
 obtain ⟨⟨t143, t144, t145⟩, zN, H⟩ := H
 replace H : ((dJ.f (wrap64 (t143 + t144))).bind fun uA => (if t145 = true then (some (uA.1, true)) else (some (uA.1, uA.2)))) = some (r1, r2) := H
 have A3 := aj.mk zN
 clear zN
 replace H := Option.bind_eq_some_iff.mp H
 obtain ⟨⟨t146, t147⟩, JA, H⟩ := H
 replace H : (if t145 = true then (some (t146, true)) else (some (t146, t147))) = some (r1, r2) := H
 have A4 := aj.mk JA
 clear JA
 by_cases c5 : t145 = true
 · subst c5
   rw [if_pos rfl] at H
   simp only [Option.some.injEq, Prod.mk.injEq] at H
   obtain ⟨rfl, rfl⟩ := H
   go_enter Tryz.func94, Tryz.ntmps94
   go_wp2_with (first | ((with_reducible refine aK (f := 146) rfl ?_); refine bC (some 12) rfl rfl Tryz.func146 (by kernel_rfl) rfl #[.int .i64 a0, .int .i64 a1] rfl (by (try simp only [List.map_toArray, List.map_cons, List.map_nil]); first | done | rfl | (simp only [List.length_drop, List.length_take]; rfl)) ?_; (with_reducible refine (b_.calls a0 a1 t143 t144 true _ A3.out).mono ?_); rintro e w6 ⟨rfl, hb⟩; refine ⟨_, rfl, ?_⟩; have bK := aj.mk (aV (by repeat (first | (with_reducible first | exact HB.out | apply ak | apply ah | apply au) | exact HB.out)) hb); clear HB; have HB := bK; clear bK; (try clear hb); (try clear hb2); (try clear hk); (try clear hi)) | ((with_reducible refine aK (f := 137) rfl ?_); refine bC (some 20) rfl rfl Tryz.func137 (by kernel_rfl) rfl #[.int .i64 (wrap64 (t143 + t144))] rfl (by (try simp only [List.map_toArray, List.map_cons, List.map_nil]); first | done | rfl | (simp only [List.length_drop, List.length_take]; rfl)) ?_; (with_reducible refine (dJ.calls (wrap64 (t143 + t144)) t146 t147 _ A4.out).mono ?_); rintro e w7 ⟨rfl, hb⟩; refine ⟨_, rfl, ?_⟩; have bK := aj.mk (aV (by repeat (first | (with_reducible first | exact HB.out | apply ak | apply ah | apply au) | exact HB.out)) hb); clear HB; have HB := bK; clear bK; (try clear hb); (try clear hb2); (try clear hk); (try clear hi)))
   go_ret2
   exact ⟨by first | rfl | (simp [aU, aT] <;> rfl) | (simp [*, aU, aT] <;> rfl), by repeat (first | (with_reducible first | exact HB.out | apply ak | apply ah | apply au) | exact HB.out)⟩
 · replace c5 := Bool.eq_false_iff.mpr c5
   subst c5
   have H1 : (some (t146, t147)) = some (r1, r2) := by rw [if_neg (show ¬ (false = true) by decide)] at H; exact H
   clear H
   have H := H1
   clear H1
   simp only [Option.some.injEq, Prod.mk.injEq] at H
   obtain ⟨rfl, rfl⟩ := H
   go_enter Tryz.func94, Tryz.ntmps94
   go_wp2_with (first | ((with_reducible refine aK (f := 146) rfl ?_); refine bC (some 12) rfl rfl Tryz.func146 (by kernel_rfl) rfl #[.int .i64 a0, .int .i64 a1] rfl (by (try simp only [List.map_toArray, List.map_cons, List.map_nil]); first | done | rfl | (simp only [List.length_drop, List.length_take]; rfl)) ?_; (with_reducible refine (b_.calls a0 a1 t143 t144 false _ A3.out).mono ?_); rintro e w8 ⟨rfl, hb⟩; refine ⟨_, rfl, ?_⟩; have bK := aj.mk (aV (by repeat (first | (with_reducible first | exact HB.out | apply ak | apply ah | apply au) | exact HB.out)) hb); clear HB; have HB := bK; clear bK; (try clear hb); (try clear hb2); (try clear hk); (try clear hi)) | ((with_reducible refine aK (f := 137) rfl ?_); refine bC (some 20) rfl rfl Tryz.func137 (by kernel_rfl) rfl #[.int .i64 (wrap64 (t143 + t144))] rfl (by (try simp only [List.map_toArray, List.map_cons, List.map_nil]); first | done | rfl | (simp only [List.length_drop, List.length_take]; rfl)) ?_; (with_reducible refine (dJ.calls (wrap64 (t143 + t144)) t146 t147 _ A4.out).mono ?_); rintro e w9 ⟨rfl, hb⟩; refine ⟨_, rfl, ?_⟩; have bK := aj.mk (aV (by repeat (first | (with_reducible first | exact HB.out | apply ak | apply ah | apply au) | exact HB.out)) hb); clear HB; have HB := bK; clear bK; (try clear hb); (try clear hb2); (try clear hk); (try clear hi)))
   go_ret2
   exact ⟨by first | rfl | (simp [aU, aT] <;> rfl) | (simp [*, aU, aT] <;> rfl), by repeat (first | (with_reducible first | exact HB.out | apply ak | apply ah | apply au) | exact HB.out)⟩
def oP.f (a0 : Int) (a1 : Int) : Option (Int) := if (mn (mx a1 0) 62) > 0 then (if 0 ≤ ((mn (mx a1 0) 62) - 1) then (if (Go.bits .and .u64 (IntKind.u64.wrap (a0)) (IntKind.u64.wrap ((IntKind.u64.wrap (2 ^ (mn (mx a1 0) 62).toNat)) - 1))) > (IntKind.u64.wrap (2 ^ ((mn (mx a1 0) 62) - 1).toNat)) then (some (wrap64 ((a0 / 2 ^ (mn (mx a1 0) 62).toNat) + 1))) else (if (Go.bits .and .u64 (IntKind.u64.wrap (a0)) (IntKind.u64.wrap ((IntKind.u64.wrap (2 ^ (mn (mx a1 0) 62).toNat)) - 1))) = (IntKind.u64.wrap (2 ^ ((mn (mx a1 0) 62) - 1).toNat)) then (if (Go.bits .and .i64 (a0 / 2 ^ (mn (mx a1 0) 62).toNat) 1) = 1 then (some (wrap64 ((a0 / 2 ^ (mn (mx a1 0) 62).toNat) + 1))) else (some (a0 / 2 ^ (mn (mx a1 0) 62).toNat))) else (some (a0 / 2 ^ (mn (mx a1 0) 62).toNat)))) else (none)) else (some (a0 / 2 ^ (mn (mx a1 0) 62).toNat))
theorem oP.calls (a0 : Int) (a1 : Int) (r : Int) (w : World) (h : oP.f a0 a1 = some r) :
 Calls Tryz.prog 135 #[.int .i64 a0, .int .i64 a1] w fun e w' => e = .returned (.int .i64 r) ∧ Below w.heap.size w w' := by
 have HB := aj.mk (Below.refl w.heap.size w)
 have H : (if (mn (mx a1 0) 62) > 0 then (if 0 ≤ ((mn (mx a1 0) 62) - 1) then (if (Go.bits .and .u64 (IntKind.u64.wrap (a0)) (IntKind.u64.wrap ((IntKind.u64.wrap (2 ^ (mn (mx a1 0) 62).toNat)) - 1))) > (IntKind.u64.wrap (2 ^ ((mn (mx a1 0) 62) - 1).toNat)) then (some (wrap64 ((a0 / 2 ^ (mn (mx a1 0) 62).toNat) + 1))) else (if (Go.bits .and .u64 (IntKind.u64.wrap (a0)) (IntKind.u64.wrap ((IntKind.u64.wrap (2 ^ (mn (mx a1 0) 62).toNat)) - 1))) = (IntKind.u64.wrap (2 ^ ((mn (mx a1 0) 62) - 1).toNat)) then (if (Go.bits .and .i64 (a0 / 2 ^ (mn (mx a1 0) 62).toNat) 1) = 1 then (some (wrap64 ((a0 / 2 ^ (mn (mx a1 0) 62).toNat) + 1))) else (some (a0 / 2 ^ (mn (mx a1 0) 62).toNat))) else (some (a0 / 2 ^ (mn (mx a1 0) 62).toNat)))) else (none)) else (some (a0 / 2 ^ (mn (mx a1 0) 62).toNat))) = some r := h
 clear h
 obtain ⟨Dn, xJ⟩ : ∃ j_ : Int, (mx a1 0) = j_ := ⟨_, rfl⟩
 replace H : (if (mn (Dn) 62) > 0 then (if 0 ≤ ((mn (Dn) 62) - 1) then (if (Go.bits .and .u64 (IntKind.u64.wrap (a0)) (IntKind.u64.wrap ((IntKind.u64.wrap (2 ^ (mn (Dn) 62).toNat)) - 1))) > (IntKind.u64.wrap (2 ^ ((mn (Dn) 62) - 1).toNat)) then (some (wrap64 ((a0 / 2 ^ (mn (Dn) 62).toNat) + 1))) else (if (Go.bits .and .u64 (IntKind.u64.wrap (a0)) (IntKind.u64.wrap ((IntKind.u64.wrap (2 ^ (mn (Dn) 62).toNat)) - 1))) = (IntKind.u64.wrap (2 ^ ((mn (Dn) 62) - 1).toNat)) then (if (Go.bits .and .i64 (a0 / 2 ^ (mn (Dn) 62).toNat) 1) = 1 then (some (wrap64 ((a0 / 2 ^ (mn (Dn) 62).toNat) + 1))) else (some (a0 / 2 ^ (mn (Dn) 62).toNat))) else (some (a0 / 2 ^ (mn (Dn) 62).toNat)))) else (none)) else (some (a0 / 2 ^ (mn (Dn) 62).toNat))) = some r := by first | (rw [xJ] at H; exact H) | (simp only [xJ] at H ⊢; exact H)
 (try (have aha : 0 ≤ Dn := by (rw [← xJ]; unfold mx; (repeat' split) <;> omega)))
 (try (have ag_ : 0 ≤ Dn := by omega))
 have ZE : (if a1 < 0 then 0 else a1) = Dn := xJ
 obtain ⟨sH, IW⟩ : ∃ j_ : Int, (mn (Dn) 62) = j_ := ⟨_, rfl⟩
 replace H : (if (sH) > 0 then (if 0 ≤ ((sH) - 1) then (if (Go.bits .and .u64 (IntKind.u64.wrap (a0)) (IntKind.u64.wrap ((IntKind.u64.wrap (2 ^ (sH).toNat)) - 1))) > (IntKind.u64.wrap (2 ^ ((sH) - 1).toNat)) then (some (wrap64 ((a0 / 2 ^ (sH).toNat) + 1))) else (if (Go.bits .and .u64 (IntKind.u64.wrap (a0)) (IntKind.u64.wrap ((IntKind.u64.wrap (2 ^ (sH).toNat)) - 1))) = (IntKind.u64.wrap (2 ^ ((sH) - 1).toNat)) then (if (Go.bits .and .i64 (a0 / 2 ^ (sH).toNat) 1) = 1 then (some (wrap64 ((a0 / 2 ^ (sH).toNat) + 1))) else (some (a0 / 2 ^ (sH).toNat))) else (some (a0 / 2 ^ (sH).toNat)))) else (none)) else (some (a0 / 2 ^ (sH).toNat))) = some r := by first | (rw [IW] at H; exact H) | (simp only [IW] at H ⊢; exact H)
 have ZC : (if 62 < (Dn) then 62 else (Dn)) = sH := IW
 by_cases c5 : (sH) > 0
 · rw [if_pos c5] at H
   have zU : decide (0 < (sH)) = true := decide_eq_true c5
   clear c5
   obtain ⟨yB, Ou⟩ : ∃ j_ : Int, ((sH) - 1) = j_ := ⟨_, rfl⟩
   have ag9 : yB ≤ 61 := by
    have h := ZC
    split at h <;> omega
   replace H : (if 0 ≤ (yB) then (if (Go.bits .and .u64 (IntKind.u64.wrap (a0)) (IntKind.u64.wrap ((IntKind.u64.wrap (2 ^ (sH).toNat)) - 1))) > (IntKind.u64.wrap (2 ^ (yB).toNat)) then (some (wrap64 ((a0 / 2 ^ (sH).toNat) + 1))) else (if (Go.bits .and .u64 (IntKind.u64.wrap (a0)) (IntKind.u64.wrap ((IntKind.u64.wrap (2 ^ (sH).toNat)) - 1))) = (IntKind.u64.wrap (2 ^ (yB).toNat)) then (if (Go.bits .and .i64 (a0 / 2 ^ (sH).toNat) 1) = 1 then (some (wrap64 ((a0 / 2 ^ (sH).toNat) + 1))) else (some (a0 / 2 ^ (sH).toNat))) else (some (a0 / 2 ^ (sH).toNat)))) else (none)) = some r := by first | (rw [Ou] at H; exact H) | (simp only [Ou] at H ⊢; exact H)
   by_cases c7 : 0 ≤ (yB)
   · rw [if_pos c7] at H
     have vZ := eq_true c7
     have K_ : decide (0 ≤ (yB)) = true := decide_eq_true c7
     clear c7
     by_cases c8 : (Go.bits .and .u64 (IntKind.u64.wrap (a0)) (IntKind.u64.wrap ((IntKind.u64.wrap (2 ^ (sH).toNat)) - 1))) > (IntKind.u64.wrap (2 ^ (yB).toNat))
     · rw [if_pos c8] at H
       have Hy : decide ((IntKind.u64.wrap (2 ^ (yB).toNat)) < (Go.bits .and .u64 (IntKind.u64.wrap (a0)) (IntKind.u64.wrap ((IntKind.u64.wrap (2 ^ (sH).toNat)) - 1)))) = true := decide_eq_true c8
       rw [show yB.toNat = min yB.toNat 64 by omega] at Hy
       clear c8
       obtain rfl := Option.some.inj H
       go_enter Tryz.func135, Tryz.ntmps135
       go_wp2
       go_ret
       exact ⟨by first | rfl | (simp [aU, aT] <;> rfl) | (simp only [← xJ, ← IW, ← Ou]; first | rfl | (simp [aU, aT] <;> rfl)) | (simp [*, aU, aT] <;> rfl), by repeat (first | (with_reducible first | exact HB.out | apply ak | apply ah | apply au) | exact HB.out)⟩
     · rw [if_neg c8] at H
       have Hy : decide ((IntKind.u64.wrap (2 ^ (yB).toNat)) < (Go.bits .and .u64 (IntKind.u64.wrap (a0)) (IntKind.u64.wrap ((IntKind.u64.wrap (2 ^ (sH).toNat)) - 1)))) = false := decide_eq_false c8
       rw [show yB.toNat = min yB.toNat 64 by omega] at Hy
       clear c8
       have O_ := eq_true (of_decide_eq_true (by first | (with_reducible assumption) | assumption) : 0 ≤ (yB))
       by_cases c10 : (Go.bits .and .u64 (IntKind.u64.wrap (a0)) (IntKind.u64.wrap ((IntKind.u64.wrap (2 ^ (sH).toNat)) - 1))) = (IntKind.u64.wrap (2 ^ (yB).toNat))
       · rw [if_pos c10] at H
         have CV : ((Go.bits .and .u64 (IntKind.u64.wrap (a0)) (IntKind.u64.wrap ((IntKind.u64.wrap (2 ^ (sH).toNat)) - 1))) == (IntKind.u64.wrap (2 ^ (yB).toNat))) = true := beq_iff_eq.mpr c10
         rw [show yB.toNat = min yB.toNat 64 by omega] at CV
         have Q8 : ((Go.bits .and .u64 (IntKind.u64.wrap (a0)) (IntKind.u64.wrap ((IntKind.u64.wrap (2 ^ (sH).toNat)) - 1))) != (IntKind.u64.wrap (2 ^ (yB).toNat))) = false := bne_eq_false_iff_eq.mpr c10
         rw [show yB.toNat = min yB.toNat 64 by omega] at Q8
         clear c10
         by_cases c11 : (Go.bits .and .i64 (a0 / 2 ^ (sH).toNat) 1) = 1
         · rw [if_pos c11] at H
           have CU : ((Go.bits .and .i64 (a0 / 2 ^ (sH).toNat) 1) == 1) = true := beq_iff_eq.mpr c11
           have aac : ((Go.bits .and .i64 (a0 / 2 ^ (sH).toNat) 1) != 1) = false := bne_eq_false_iff_eq.mpr c11
           clear c11
           obtain rfl := Option.some.inj H
           go_enter Tryz.func135, Tryz.ntmps135
           go_wp2
           go_ret
           exact ⟨by first | rfl | (simp [aU, aT] <;> rfl) | (simp only [← xJ, ← IW, ← Ou]; first | rfl | (simp [aU, aT] <;> rfl)) | (simp [*, aU, aT] <;> rfl), by repeat (first | (with_reducible first | exact HB.out | apply ak | apply ah | apply au) | exact HB.out)⟩
         · rw [if_neg c11] at H
           have CU : ((Go.bits .and .i64 (a0 / 2 ^ (sH).toNat) 1) == 1) = false := beq_eq_false_iff_ne.mpr c11
           have aac : ((Go.bits .and .i64 (a0 / 2 ^ (sH).toNat) 1) != 1) = true := bne_iff_ne.mpr c11
           obtain rfl := Option.some.inj H
           go_enter Tryz.func135, Tryz.ntmps135
           go_wp2
           go_ret
           exact ⟨by first | rfl | (simp [aU, aT] <;> rfl) | (simp only [← xJ, ← IW, ← Ou]; first | rfl | (simp [aU, aT] <;> rfl)) | (simp [*, aU, aT] <;> rfl), by repeat (first | (with_reducible first | exact HB.out | apply ak | apply ah | apply au) | exact HB.out)⟩
       · rw [if_neg c10] at H
         have CV : ((Go.bits .and .u64 (IntKind.u64.wrap (a0)) (IntKind.u64.wrap ((IntKind.u64.wrap (2 ^ (sH).toNat)) - 1))) == (IntKind.u64.wrap (2 ^ (yB).toNat))) = false := beq_eq_false_iff_ne.mpr c10
         rw [show yB.toNat = min yB.toNat 64 by omega] at CV
         have Q8 : ((Go.bits .and .u64 (IntKind.u64.wrap (a0)) (IntKind.u64.wrap ((IntKind.u64.wrap (2 ^ (sH).toNat)) - 1))) != (IntKind.u64.wrap (2 ^ (yB).toNat))) = true := bne_iff_ne.mpr c10
         rw [show yB.toNat = min yB.toNat 64 by omega] at Q8
         obtain rfl := Option.some.inj H
         go_enter Tryz.func135, Tryz.ntmps135
         go_wp2
         go_ret
         exact ⟨by first | rfl | (simp [aU, aT] <;> rfl) | (simp only [← xJ, ← IW, ← Ou]; first | rfl | (simp [aU, aT] <;> rfl)) | (simp [*, aU, aT] <;> rfl), by repeat (first | (with_reducible first | exact HB.out | apply ak | apply ah | apply au) | exact HB.out)⟩
   · rw [if_neg c7] at H
     exact absurd H (by simp)
 · rw [if_neg c5] at H
   have zU : decide (0 < (sH)) = false := decide_eq_false c5
   clear c5
   obtain rfl := Option.some.inj H
   go_enter Tryz.func135, Tryz.ntmps135
   go_wp2
   go_ret
   exact ⟨by first | rfl | (simp [aU, aT] <;> rfl) | (simp only [← xJ, ← IW]; first | rfl | (simp [aU, aT] <;> rfl)) | (simp [*, aU, aT] <;> rfl), by repeat (first | (with_reducible first | exact HB.out | apply ak | apply ah | apply au) | exact HB.out)⟩
def d_.j0 : Nat → Int → Bool → Option (Int)
 | 0, _, _ => none
 | k + 1, x2, x7 => if x7 = true then (some 9) else (if x2 ≤ 0 then (some 1) else (some 0))
def d_.f (k : Nat) (aZ : Int) (bn : Int) (bf : List Int) (dH : Int) (dL : Int) (bW : List Int) (bP : Int) (bQ : Int) (bG : List Int) (a2 : Int) : Option (Int) := if bP = 1 then (d_.j0 k a2 (bQ != aZ)) else (d_.j0 k a2 true)
theorem d_.calls (k : Nat) (aZ : Int) (bn : Int) (bU : Option Addr) (bT : Nat) (bf : List Int) (dH : Int) (dL : Int) (ig : Option Addr) (gK : Nat) (bW : List Int) (bP : Int) (bQ : Int) (eY : Option Addr) (fA : Nat) (bG : List Int) (a2 : Int) (r : Int) (w : World) (iV : Kd.C (Kd.int .i64) w bU bf.length bf) (jy : bf.length ≤ bT) (zo : Kd.C (Kd.int .i64) w ig bW.length bW) (zx : bW.length ≤ gK) (mG : Kd.C (Kd.int .i64) w eY bG.length bG) (nC : bG.length ≤ fA) (h : d_.f k aZ bn bf dH dL bW bP bQ bG a2 = some r) :
 Calls Tryz.prog 189 #[.agg #[.int .i64 aZ, .int .i64 bn, .slice bU bf.length bT, .int .i64 dH, .int .i64 dL, .slice ig bW.length gK], .agg #[.int .i64 bP, .int .i64 bQ, .slice eY bG.length fA], .int .i64 a2] w fun e w' => e = .returned (.int .i64 r) ∧ Below w.heap.size w w' := by
 have Zo := Tryz.underlying31
 have DK := Tryz.underlying29
 have lY := aj.mk iV
 have oq := aj.mk jy
 clear iV jy
 have r_ := aj.mk zo
 have EJ := aj.mk zx
 clear zo zx
 have qQ := aj.mk mG
 have uJ := aj.mk nC
 clear mG nC
 have HB := aj.mk (Below.refl w.heap.size w)
 have H : (if bP = 1 then (d_.j0 k a2 (bQ != aZ)) else (d_.j0 k a2 true)) = some r := h
 clear h
 have Yl := aj.mk H
 clear H
 go_enter Tryz.func189, Tryz.ntmps189
 go_upto_region 1 with (first | ((with_reducible refine dI (N := 3) rfl ?_); refine cZ ?hg (N := 3) ?hd (cs := #[.int .i64 aZ, .int .i64 bn, .slice bU bf.length bT, .int .i64 dH, .int .i64 dL, .slice ig bW.length gK]) (t := 31) ?hr ?_; (case hd => rfl); (case hg => rfl); (case hr => first | (go_simp; done) | (go_simp; rfl)); intro qx hg w5 hbox hb; have bK := aj.mk (aV (by repeat (first | (with_reducible first | exact HB.out | apply ak | apply ah | apply au) | exact HB.out)) hb); have dW := aj.mk (hbox); have eG := aj.mk ((by rw [hg]; exact (bz (by repeat (first | (with_reducible first | exact HB.out | apply ak | apply ah | apply au) | exact HB.out))) : w.heap.size ≤ qx)); have fP := aj.mk ((by rw [hg]; exact (bz (by repeat (first | (with_reducible first | exact HB.out | apply ak | apply ah | apply au) | exact HB.out))) : w.heap.size ≤ qx)); clear HB; have HB := bK; have l7 := dW; have aiC := eG; have zK := fP; clear bK dW eG fP; clear hb hbox hg) | ((with_reducible refine dI (N := 4) rfl ?_); refine cZ ?hg (N := 4) ?hd (cs := #[.int .i64 bP, .int .i64 bQ, .slice eY bG.length fA]) (t := 29) ?hr ?_; (case hd => rfl); (case hg => rfl); (case hr => first | (go_simp; done) | (go_simp; rfl)); intro uu hg w6 hbox hb; have bK := aj.mk (bI (g := qx) (o := .cells #[.int .i64 aZ, .int .i64 bn, .slice bU bf.length bT, .int .i64 dH, .int .i64 dL, .slice ig bW.length gK] 31 (0, 0)) (by (with_reducible repeat (first | refine aC ?_ _ | refine aH ?_ | refine aG ?_ _)); exact l7.out) hb); have dW := aj.mk (aV (by repeat (first | (with_reducible first | exact HB.out | apply ak | apply ah | apply au | refine aA ?_ zK.out) | exact HB.out)) hb); have eG := aj.mk (hbox); have fP := aj.mk ((by rw [hg]; exact (bz (by repeat (first | (with_reducible first | exact HB.out | apply ak | apply ah | apply au | refine aA ?_ zK.out) | exact HB.out))) : w.heap.size ≤ uu)); have jR := aj.mk ((by rw [hg]; exact (bz (by repeat (first | (with_reducible first | exact HB.out | apply ak | apply ah | apply au | refine aA ?_ zK.out) | exact HB.out))) : w.heap.size ≤ uu)); have jV := aj.mk ((by rw [hg]; exact Nat.ne_of_lt (eu (g := qx) (o := .cells #[.int .i64 aZ, .int .i64 bn, .slice bU bf.length bT, .int .i64 dH, .int .i64 dL, .slice ig bW.length gK] 31 (0, 0)) (by (with_reducible repeat (first | refine aC ?_ _ | refine aH ?_ | refine aG ?_ _)); exact l7.out)) : qx ≠ uu)); have kQ := aj.mk ((by rw [hg]; exact Nat.ne_of_gt (eu (g := qx) (o := .cells #[.int .i64 aZ, .int .i64 bn, .slice bU bf.length bT, .int .i64 dH, .int .i64 dL, .slice ig bW.length gK] 31 (0, 0)) (by (with_reducible repeat (first | refine aC ?_ _ | refine aH ?_ | refine aG ?_ _)); exact l7.out)) : uu ≠ qx)); clear l7; clear HB; have l7 := bK; have HB := dW; have pV := eG; have aiB := fP; have Jy := jR; have Ey := jV; have Ew := kQ; clear bK dW eG fP jR jV kQ; clear hb hbox hg))
 (try simp only [Act.put, List.setIfInBounds_toArray, List.set_cons_zero, List.set_cons_succ])
 go_cut [7] (fun v7 wc => ∃ (kq : Nat) (qE : Bool), v7 = .bool qE ∧ aj (d_.j0 kq a2 qE = some r) ∧ aj (kq ≤ k) ∧ aj (wc.heap[qx]? = some (.cells #[.int .i64 aZ, .int .i64 bn, (.slice bU bf.length bT), .int .i64 dH, .int .i64 dL, (.slice ig bW.length gK)] 31 (0, 0))) ∧ aj (wc.heap[uu]? = some (.cells #[.int .i64 bP, .int .i64 bQ, (.slice eY bG.length fA)] 29 (0, 0))) ∧ aj (Below w.heap.size w wc))
 case first =>
  have H := Yl.out
  clear Yl
  by_cases c7 : bP = 1
  · rw [if_pos c7] at H
    have vZ : (bP == 1) = true := beq_iff_eq.mpr c7
    have K_ : (bP != 1) = false := bne_eq_false_iff_eq.mpr c7
    clear c7
    (first | rw [vZ] | (simp only [dB, dD]; rw [vZ]) | skip)
    have H' := aj.mk H
    clear H
    have Zx := Ew.out
    have Zu := Ey.out
    have rJ : w6.cell? ⟨uu, 0, none⟩ = some (.int .i64 bP) := (az pV.out 0).trans rfl
    have uj : w6.cell? ⟨uu, 1, none⟩ = some (.int .i64 bQ) := (az pV.out 1).trans rfl
    have uh : w6.cell? ⟨uu, 2, none⟩ = some (.slice eY bG.length fA) := (az pV.out 2).trans rfl
    have rH := ay pV.out 0
    have t_ := ay pV.out 1
    have tZ := ay pV.out 2
    have mV : w6.cell? ⟨qx, 0, none⟩ = some (.int .i64 aZ) := (az l7.out 0).trans rfl
    have mQ : w6.cell? ⟨qx, 1, none⟩ = some (.int .i64 bn) := (az l7.out 1).trans rfl
    have mP : w6.cell? ⟨qx, 2, none⟩ = some (.slice bU bf.length bT) := (az l7.out 2).trans rfl
    have qw : w6.cell? ⟨qx, 3, none⟩ = some (.int .i64 dH) := (az l7.out 3).trans rfl
    have qp : w6.cell? ⟨qx, 4, none⟩ = some (.int .i64 dL) := (az l7.out 4).trans rfl
    have qo : w6.cell? ⟨qx, 5, none⟩ = some (.slice ig bW.length gK) := (az l7.out 5).trans rfl
    have mO := ay l7.out 0
    have mM := ay l7.out 1
    have mJ := ay l7.out 2
    have ql := ay l7.out 3
    have qj := ay l7.out 4
    have qi := ay l7.out 5
    go_wp2
    go_meet
    case rel => exact ⟨_, ((bQ != aZ)), (by first | rfl | (simp; done) | (simp [*]; done)), H', ⟨by first | omega | exact Nat.le_refl _⟩, ⟨by (with_reducible repeat (first | refine aC ?_ _ | refine aH ?_ | refine aG ?_ _)); exact l7.out⟩, ⟨by (with_reducible repeat (first | refine aC ?_ _ | refine aH ?_ | refine aG ?_ _)); exact pV.out⟩, ⟨by repeat (first | (with_reducible first | exact HB.out | apply ak | apply ah | apply au | refine aA ?_ zK.out | refine aA ?_ Jy.out) | exact HB.out)⟩⟩
  · rw [if_neg c7] at H
    have vZ : (bP == 1) = false := beq_eq_false_iff_ne.mpr c7
    have K_ : (bP != 1) = true := bne_iff_ne.mpr c7
    (first | rw [vZ] | (simp only [dB, dD]; rw [vZ]) | skip)
    have H' := aj.mk H
    clear H
    have VU := Ew.out
    have VS := Ey.out
    have oI : w6.cell? ⟨uu, 0, none⟩ = some (.int .i64 bP) := (az pV.out 0).trans rfl
    have oH : w6.cell? ⟨uu, 1, none⟩ = some (.int .i64 bQ) := (az pV.out 1).trans rfl
    have oG : w6.cell? ⟨uu, 2, none⟩ = some (.slice eY bG.length fA) := (az pV.out 2).trans rfl
    have oD := ay pV.out 0
    have oz := ay pV.out 1
    have ou := ay pV.out 2
    go_wp2
    go_meet
    case rel => exact ⟨_, (true), (by first | rfl | (simp; done) | (simp [*]; done)), H', ⟨by first | omega | exact Nat.le_refl _⟩, ⟨by (with_reducible repeat (first | refine aC ?_ _ | refine aH ?_ | refine aG ?_ _)); exact l7.out⟩, ⟨by (with_reducible repeat (first | refine aC ?_ _ | refine aH ?_ | refine aG ?_ _)); exact pV.out⟩, ⟨by repeat (first | (with_reducible first | exact HB.out | apply ak | apply ah | apply au | refine aA ?_ zK.out | refine aA ?_ Jy.out) | exact HB.out)⟩⟩
 case rest =>
  clear Yl
  try clear c1
  try clear p2
  try clear c7
  try clear vZ
  try clear K_
  try clear c8
  try clear c11
  try clear mV
  try clear mQ
  try clear mP
  try clear qw
  try clear qp
  try clear qo
  try clear oI
  try clear oH
  try clear oG
  try clear rJ
  try clear uj
  try clear uh
  try clear mO
  try clear mM
  try clear mJ
  try clear ql
  try clear qj
  try clear qi
  try clear oD
  try clear oz
  try clear ou
  try clear rH
  try clear t_
  try clear tZ
  obtain ⟨kq, qE, rfl, HA, HJ3, l7, pV, HB⟩ := hcut
  cases kq with
  | zero => exact absurd HA.out (by simp [d_.j0])
  | succ kj3 =>
    have H := HA.out
    clear HA
    simp only [d_.j0] at H
    by_cases c13 : qE = true
    · subst c13
      rw [if_pos rfl] at H
      obtain rfl := Option.some.inj H
      go_wp2
      go_ret
      exact ⟨by first | rfl | (simp [aU, aT] <;> rfl) | (simp [*, aU, aT] <;> rfl), by repeat (first | (with_reducible first | exact HB.out | apply ak | apply ah | apply au | refine aA ?_ zK.out | refine aA ?_ Jy.out) | exact HB.out)⟩
    · replace c13 := Bool.eq_false_iff.mpr c13
      subst c13
      have H1 : (if a2 ≤ 0 then (some 1) else (some 0)) = some r := by rw [if_neg (show ¬ (false = true) by decide)] at H; exact H
      clear H
      have H := H1
      clear H1
      by_cases c14 : a2 ≤ 0
      · rw [if_pos c14] at H
        have n_ : decide (a2 ≤ 0) = true := decide_eq_true c14
        clear c14
        obtain rfl := Option.some.inj H
        go_wp2
        go_ret
        exact ⟨by first | rfl | (simp [aU, aT] <;> rfl) | (simp [*, aU, aT] <;> rfl), by repeat (first | (with_reducible first | exact HB.out | apply ak | apply ah | apply au | refine aA ?_ zK.out | refine aA ?_ Jy.out) | exact HB.out)⟩
      · rw [if_neg c14] at H
        have n_ : decide (a2 ≤ 0) = false := decide_eq_false c14
        clear c14
        obtain rfl := Option.some.inj H
        go_wp2
        go_ret
        exact ⟨by first | rfl | (simp [aU, aT] <;> rfl) | (simp [*, aU, aT] <;> rfl), by repeat (first | (with_reducible first | exact HB.out | apply ak | apply ah | apply au | refine aA ?_ zK.out | refine aA ?_ Jy.out) | exact HB.out)⟩
def nY.f (aZ : Int) (bn : Int) (bf : List Int) : Option (Int × Int) := some (aZ, bn)
theorem nY.calls (aZ : Int) (bn : Int) (bU : Option Addr) (bT : Nat) (bf : List Int) (r1 : Int) (r2 : Int) (w : World) (iV : Kd.C (Kd.int .i64) w bU bf.length bf) (jy : bf.length ≤ bT) (h : nY.f aZ bn bf = some (r1, r2)) :
 Calls Tryz.prog 131 #[.agg #[.int .i64 aZ, .int .i64 bn, .slice bU bf.length bT]] w fun e w' => e = .returned (.agg #[.int .i64 r1, .int .i64 r2]) ∧ Below w.heap.size w w' := by
 have DK := Tryz.underlying29
 have agN := Tryz.underlying186
 have lY := aj.mk iV
 have oq := aj.mk jy
 clear iV jy
 have HB := aj.mk (Below.refl w.heap.size w)
 have H : (some (aZ, bn)) = some (r1, r2) := h
 clear h
 simp only [Option.some.injEq, Prod.mk.injEq] at H
 obtain ⟨rfl, rfl⟩ := H
 go_enter Tryz.func131, Tryz.ntmps131
 go_wp2_with (first | ((with_reducible refine dI (N := 1) rfl ?_); refine cZ ?hg (N := 1) ?hd (cs := #[.int .i64 aZ, .int .i64 bn, .slice bU bf.length bT]) (t := 29) ?hr ?_; (case hd => rfl); (case hg => rfl); (case hr => first | (go_simp; done) | (go_simp; rfl)); intro wI hg w2 hbox hb; have bK := aj.mk (aV (by repeat (first | (with_reducible first | exact HB.out | apply ak | apply ah | apply au) | exact HB.out)) hb); have dW := aj.mk (hbox); have eG := aj.mk ((by rw [hg]; exact (bz (by repeat (first | (with_reducible first | exact HB.out | apply ak | apply ah | apply au) | exact HB.out))) : w.heap.size ≤ wI)); have fP := aj.mk ((by rw [hg]; exact (bz (by repeat (first | (with_reducible first | exact HB.out | apply ak | apply ah | apply au) | exact HB.out))) : w.heap.size ≤ wI)); clear HB; have HB := bK; have uM := dW; have aiA := eG; have Nu := fP; clear bK dW eG fP; clear hb hbox hg) | ((with_reducible refine dI (N := 2) rfl ?_); refine cZ ?hg (N := 2) ?hd (cs := #[.int .i64 0, .int .i64 0]) (t := 186) ?hr ?_; (case hd => rfl); (case hg => rfl); (case hr => first | (go_simp; done) | (go_simp; rfl)); intro BV hg w3 hbox hb; have bK := aj.mk (bI (g := wI) (o := .cells #[.int .i64 aZ, .int .i64 bn, .slice bU bf.length bT] 29 (0, 0)) (by (with_reducible repeat (first | refine aC ?_ _ | refine aH ?_ | refine aG ?_ _)); exact uM.out) hb); have dW := aj.mk (aV (by repeat (first | (with_reducible first | exact HB.out | apply ak | apply ah | apply au | refine aA ?_ Nu.out) | exact HB.out)) hb); have eG := aj.mk (hbox); have fP := aj.mk ((by rw [hg]; exact (bz (by repeat (first | (with_reducible first | exact HB.out | apply ak | apply ah | apply au | refine aA ?_ Nu.out) | exact HB.out))) : w.heap.size ≤ BV)); have jR := aj.mk ((by rw [hg]; exact (bz (by repeat (first | (with_reducible first | exact HB.out | apply ak | apply ah | apply au | refine aA ?_ Nu.out) | exact HB.out))) : w.heap.size ≤ BV)); have jV := aj.mk ((by rw [hg]; exact Nat.ne_of_lt (eu (g := wI) (o := .cells #[.int .i64 aZ, .int .i64 bn, .slice bU bf.length bT] 29 (0, 0)) (by (with_reducible repeat (first | refine aC ?_ _ | refine aH ?_ | refine aG ?_ _)); exact uM.out)) : wI ≠ BV)); have kQ := aj.mk ((by rw [hg]; exact Nat.ne_of_gt (eu (g := wI) (o := .cells #[.int .i64 aZ, .int .i64 bn, .slice bU bf.length bT] 29 (0, 0)) (by (with_reducible repeat (first | refine aC ?_ _ | refine aH ?_ | refine aG ?_ _)); exact uM.out)) : BV ≠ wI)); clear uM; clear HB; have uM := bK; have HB := dW; have Jz := eG; have aiz := fP; have abz := jR; have Po := jV; have Pn := kQ; clear bK dW eG fP jR jV kQ; clear hb hbox hg; have ajy := Po.out; have ajv := Pn.out; have KP : w3.cell? ⟨wI, 0, none⟩ = some (.int .i64 aZ) := (az uM.out 0).trans rfl; have KO : w3.cell? ⟨wI, 1, none⟩ = some (.int .i64 bn) := (az uM.out 1).trans rfl; have KN : w3.cell? ⟨wI, 2, none⟩ = some (.slice bU bf.length bT) := (az uM.out 2).trans rfl; have KJ := ay uM.out 0; have KI := ay uM.out 1; have KH := ay uM.out 2; have um : w3.cell? ⟨BV, 0, none⟩ = some (.int .i64 0) := (az Jz.out 0).trans rfl; have uk : w3.cell? ⟨BV, 1, none⟩ = some (.int .i64 0) := (az Jz.out 1).trans rfl; have ug := ay Jz.out 0; have uf := ay Jz.out 1))
 refine bodyPost_ret (results_cell_row rfl _ _ BV 186 #[.int .i64 aZ, .int .i64 bn] (0, 0) _ rfl (by (with_reducible repeat (first | refine aC ?_ _ | refine aH ?_ | refine aG ?_ _)); refine fH (cs := #[.int .i64 aZ, .int .i64 0]) ?_ 1 _ rfl; (with_reducible repeat (first | refine aC ?_ _ | refine aH ?_ | refine aG ?_ _)); refine fH (cs := #[.int .i64 0, .int .i64 0]) ?_ 0 _ rfl; (with_reducible repeat (first | refine aC ?_ _ | refine aH ?_ | refine aG ?_ _)); exact Jz.out) Tryz.underlying186 rfl (by kernel_rfl)) rfl ?_
 exact ⟨by first | rfl | (simp [aU, aT] <;> rfl) | (simp [*, aU, aT] <;> rfl), by repeat (first | (with_reducible first | exact HB.out | apply ak | apply ah | apply au | refine aA ?_ Nu.out | refine aA ?_ abz.out) | exact HB.out)⟩
def eH.l0 : Nat → List Int → List Int → Int → Int → Option (Bool)
 | 0, _, _, _, _ => none
 | k + 1, x0, x1, x12, DU => if DU < x12 then (if 0 ≤ DU then (if DU < (x0.length : Int) then (if DU < (x1.length : Int) then (if (rd x0 DU) = (rd x1 DU) then (eH.l0 k x0 x1 x12 (wrap64 (DU + 1))) else (some false)) else (none)) else (none)) else (none)) else (some true)
def eH.f (k : Nat) (l0 : List Int) (l1 : List Int) : Option (Bool) := if (l0.length : Int) = (l1.length : Int) then (eH.l0 k l0 l1 (l0.length : Int) 0) else (some false)
theorem eH.calls (k : Nat) (A0 : Option Addr) (c0 : Nat) (l0 : List Int) (A1 : Option Addr) (c1 : Nat) (l1 : List Int) (r : Bool) (w : World) (hr0 : Kd.C (Kd.int .i64) w A0 l0.length l0) (hc0 : l0.length ≤ c0) (hr1 : Kd.C (Kd.int .i64) w A1 l1.length l1) (hc1 : l1.length ≤ c1) (h : eH.f k l0 l1 = some r) :
 Calls Tryz.prog 132 #[.slice A0 l0.length c0, .slice A1 l1.length c1] w fun e w' => e = .returned (.bool r) ∧ bY w w' := by
 have HR0 := aj.mk hr0
 have HC0 := aj.mk hc0
 clear hr0 hc0
 have HR1 := aj.mk hr1
 have HC1 := aj.mk hc1
 clear hr1 hc1
 have H : (if (l0.length : Int) = (l1.length : Int) then (eH.l0 k l0 l1 (l0.length : Int) 0) else (some false)) = some r := h
 clear h
 by_cases c3 : (l0.length : Int) = (l1.length : Int)
 · rw [if_pos c3] at H
   have ZV : ((l0.length : Int) == (l1.length : Int)) = true := beq_iff_eq.mpr c3
   have ZU : ((l0.length : Int) != (l1.length : Int)) = false := bne_eq_false_iff_eq.mpr c3
   have ZT : (l0.length == l1.length) = true := by first | simpa using c3 | (simp at c3 ⊢; omega)
   clear c3
   have H' := aj.mk H
   clear H
   go_enter Tryz.func132, Tryz.ntmps132
   go_wp2
   repeat (go_quiet (fail); try go_wp2)
   go_loopg [13] k (fun kq v13 w' => ∃ (g_ : Int), v13 = .int .i64 g_ ∧ aj (eH.l0 kq l0 l1 (l0.length : Int) g_ = some r) ∧ aj (kq ≤ k) ∧ bY w w')
   case atStart => exact ⟨(0), (by first | rfl | (simp; done) | (simp [*]; done)), H', ⟨Nat.le_refl _⟩, by repeat (first | exact bY.refl _ | apply bY.step)⟩
   case round =>
    clear H'
    try clear c1
    try clear p2
    try clear c3
    try clear ZV
    try clear ZU
    try clear ZT
    obtain ⟨g_, rfl, HA, EI, ⟨m1, rfl⟩⟩ := hrel
    cases gk with
    | zero => exact absurd HA.out (by simp [eH.l0])
    | succ k1 =>
      have H := HA.out
      clear HA
      simp only [eH.l0] at H
      by_cases c4 : g_ < (l0.length : Int)
      · rw [if_pos c4] at H
        have rP : decide (g_ < (l0.length : Int)) = true := decide_eq_true c4
        clear c4
        by_cases c5 : 0 ≤ g_
        · rw [if_pos c5] at H
          have zU : decide (0 ≤ g_) = true := decide_eq_true c5
          clear c5
          by_cases c6 : g_ < (l0.length : Int)
          · rw [if_pos c6] at H
            have rO : decide (g_ < (l0.length : Int)) = true := decide_eq_true c6
            clear c6
            by_cases c7 : g_ < (l1.length : Int)
            · rw [if_pos c7] at H
              have vZ : decide (g_ < (l1.length : Int)) = true := decide_eq_true c7
              clear c7
              by_cases c8 : (rd l0 g_) = (rd l1 g_)
              · rw [if_pos c8] at H
                have Hy : ((rd l0 g_) == (rd l1 g_)) = true := beq_iff_eq.mpr c8
                have afA : ((rd l0 g_) != (rd l1 g_)) = false := bne_eq_false_iff_eq.mpr c8
                clear c8
                have H' := aj.mk H
                clear H
                have J_ : 0 ≤ (g_ : Int) := of_decide_eq_true (by first | (with_reducible assumption) | assumption)
                have J3 : g_ < (l0.length : Int) := of_decide_eq_true (by first | (with_reducible assumption) | assumption)
                obtain ⟨aam, Xt, TS⟩ := Kd.kH HR0.out g_ J_ J3
                cases Xt
                replace J_ := eq_true J_
                replace J3 := eq_true J3
                have J9 : 0 ≤ (g_ : Int) := of_decide_eq_true (by first | (with_reducible assumption) | assumption)
                have JZ : g_ < (l1.length : Int) := of_decide_eq_true (by first | (with_reducible assumption) | assumption)
                obtain ⟨aal, Xr, TR⟩ := Kd.kH HR1.out g_ J9 JZ
                cases Xr
                replace J9 := eq_true J9
                replace JZ := eq_true JZ
                go_wp2
                repeat (go_quiet (fail); try go_wp2)
                go_roundg k1
                case measure => have := EI.out; omega
                case rel => exact ⟨(wrap64 (g_ + 1)), (by first | rfl | (simp; done) | (simp [*]; done)), H', ⟨by have := EI.out; omega⟩, by repeat (first | exact bY.refl _ | apply bY.step)⟩
              · rw [if_neg c8] at H
                have Hy : ((rd l0 g_) == (rd l1 g_)) = false := beq_eq_false_iff_ne.mpr c8
                have afA : ((rd l0 g_) != (rd l1 g_)) = true := bne_iff_ne.mpr c8
                obtain rfl := Option.some.inj H
                have J_ : 0 ≤ (g_ : Int) := of_decide_eq_true (by first | (with_reducible assumption) | assumption)
                have J3 : g_ < (l0.length : Int) := of_decide_eq_true (by first | (with_reducible assumption) | assumption)
                obtain ⟨aam, Xt, TS⟩ := Kd.kH HR0.out g_ J_ J3
                cases Xt
                replace J_ := eq_true J_
                replace J3 := eq_true J3
                have J9 : 0 ≤ (g_ : Int) := of_decide_eq_true (by first | (with_reducible assumption) | assumption)
                have JZ : g_ < (l1.length : Int) := of_decide_eq_true (by first | (with_reducible assumption) | assumption)
                obtain ⟨aal, Xr, TR⟩ := Kd.kH HR1.out g_ J9 JZ
                cases Xr
                replace J9 := eq_true J9
                replace JZ := eq_true JZ
                go_wp2
                repeat (go_quiet (fail); try go_wp2)
                go_ret
                exact ⟨by first | rfl | (simp; done) | (simp [*]; done), by repeat (first | exact bY.refl _ | apply bY.step)⟩
            · rw [if_neg c7] at H
              exact absurd H (by simp)
          · rw [if_neg c6] at H
            exact absurd H (by simp)
        · rw [if_neg c5] at H
          exact absurd H (by simp)
      · rw [if_neg c4] at H
        have rP : decide (g_ < (l0.length : Int)) = false := decide_eq_false c4
        clear c4
        obtain rfl := Option.some.inj H
        go_wp2
        repeat (go_quiet (fail); try go_wp2)
        go_ret
        exact ⟨by first | rfl | (simp; done) | (simp [*]; done), by repeat (first | exact bY.refl _ | apply bY.step)⟩
 · rw [if_neg c3] at H
   have ZV : ((l0.length : Int) == (l1.length : Int)) = false := beq_eq_false_iff_ne.mpr c3
   have ZU : ((l0.length : Int) != (l1.length : Int)) = true := bne_iff_ne.mpr c3
   have ZT : (l0.length == l1.length) = false := by first | simpa using c3 | (simp at c3 ⊢; omega)
   obtain rfl := Option.some.inj H
   go_enter Tryz.func132, Tryz.ntmps132
   go_wp2
   repeat (go_quiet (fail); try go_wp2)
   go_ret
   exact ⟨by first | rfl | (simp; done) | (simp [*]; done), by repeat (first | exact bY.refl _ | apply bY.step)⟩
end Go.Proofs.YtcfobekkchhbbaaGreat.PQ

