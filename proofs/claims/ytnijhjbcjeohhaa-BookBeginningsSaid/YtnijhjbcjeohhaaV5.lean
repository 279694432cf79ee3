import Derived.Test.YtnijhjbcjeohhaaV4
import Derived.Laws.MakeOwn
import Derived.Laws.IdiomCopy
import Derived.Test.YtnijhjbcjeohhaaProg
import Derived.Test.YtnijhjbcjeohhaaV1
/- Joined and thinned by a program of this session's own (wip/pack2.py) out of its texts (wip/ of its repo); parts were laid by its own program (wip/print-patch.py over the kit's print) out of the translation; Lean checks all. -/
set_option maxRecDepth 100000
set_option maxHeartbeats 8000000
namespace Go.Proofs.Ytnijhjbcjeohhaa.KK
open Go.RowKit Go.Proofs.af.aA Go.Proofs.af.aN Go.Proofs.af.aP
set_option linter.unusedVariables false
set_option linter.unusedSimpArgs false
def jK (r c : Nat) (l : List Int) (q : Int) : List Int := upto c (fun i k => (iD (l.getD (i * c + k) 0) q).1) r
def scaleB (r c : Nat) (l : List Int) (q : Int) : Bool := sH c (fun i k => (iD (l.getD (i * c + k) 0) q).2) r
theorem OA : Enters 129 := enters Try.func129 rfl rfl
theorem OD : Enters 114 := enters Try.func114 rfl rfl
theorem Ed (r c : Nat) (A : Option Addr) (cp : Nat) (g : Nat) (q : Int) (l : List Int) (w : World) (hr : r ≤ 8) (hc : c ≤ 8) (hl : l.length = r * c) (hA : Rd w A l)
 (R : Row w g 31 #[I r, I c, (.slice A l.length cp)]) (R' : Row w (g + 1) 22 #[I q]) :
 vZ w 129 #[.pointer (some ⟨g, 0, none⟩), .pointer (some ⟨g + 1, 0, none⟩)] r c (fun i k => (iD (l.getD (i * c + k) 0) q).1) (fun i k => (iD (l.getD (i * c + k) 0) q).2) := by
 intro i k w' hi hk hb
 have R1 := Lib.hid (R.below hb R.lt)
 have R2 := Lib.hid (R'.below hb R'.lt)
 have hle : r * c ≤ 8 * 8 := Nat.mul_le_mul hr hc
 have hlt : i * c + k < r * c := lQ hi hk
 have H1 := Lib.hid (fun w' h => jV r c A cp l i k w' h (by rw [hl]; exact hlt) (by rw [hl]; omega))
 have A1 := Lib.hid (hA.below hb)
 obtain ⟨x, hx⟩ : ∃ x, l.getD (i * c + k) 0 = x := ⟨_, rfl⟩
 rw [hx] at H1
 show Calls Try.prog 129 #[I i, I k, .pointer (some ⟨g, 0, none⟩), .pointer (some ⟨g + 1, 0, none⟩)] w' fun e w'' => e = .returned (.tuple #[I (iD (l.getD (i * c + k) 0) q).1, .bool (iD (l.getD (i * c + k) 0) q).2]) ∧ Below w'.heap.size w' w''
 rw [hx]
 have H3 := Lib.hid (fun w => eH x q w)
 obtain ⟨z, hz⟩ : ∃ z, iD x q = z := ⟨_, rfl⟩
 rw [hz] at H3 ⊢
 obtain ⟨z1, z2⟩ := z
 clear hb R R' hA hr hc hle hl hx hz hlt
 have K : Hid (∀ w2, Below w'.heap.size w' w2 → (∀ o, w2.cell? ⟨g, o, none⟩ = #[I r, I c, (.slice A l.length cp)][o]?) ∧ (∀ o, w2.cell? ⟨g + 1, o, none⟩ = #[I q][o]?)) := Lib.hid (fun w2 hb => ⟨(R1.out.below hb R1.out.lt).cell, (R2.out.below hb R2.out.lt).cell⟩)
 have B0 := Lib.hid (Below.refl w'.heap.size w')
 have B1 := Lib.hid B0.out.drew
 have x2 := R1.out.cell
 have x3 := R2.out.cell
 clear R1 R2
 go_enter Try.func129, Try.ntmps129
 go_wp2_with fail
 go_region_held3 (fun w2 => (∀ o, w2.cell? ⟨g, o, none⟩ = #[I r, I c, (.slice A l.length cp)][o]?) ∧ (∀ o, w2.cell? ⟨g + 1, o, none⟩ = #[I q][o]?))
  (first | with_reducible exact K.out _ B3.out | with_reducible exact K.out _ B2.out | with_reducible exact K.out _ B1.out | with_reducible exact K.out _ B0.out)
  (first
    | (go_at_call 67
       refine (H3.out _).mono ?_
       rintro e w4 ⟨rfl, hb⟩
       have B3 := Lib.hid (B2.out.trans (hb.mono B2.out.size))
       clear hb)
    | (go_at_call 110
       refine (H1.out _ (A1.out.below B1.out)).mono ?_
       rintro e w2 ⟨rfl, hb⟩
       have B2 := Lib.hid (B1.out.trans (hb.mono B1.out.size))
       clear hb))
 all_goals
  go_wp2
  go_ret2
  exact ⟨rfl, B3.out⟩
theorem KQ (r c : Nat) (A : Option Addr) (cp : Nat) (l : List Int) (q : Int) (w : World) (hr : r ≤ 8) (hc : c ≤ 8) (hl : l.length = r * c) (hA : Rd w A l) (hcp : l.length ≤ cp) :
 Calls Try.prog 125 #[.agg #[I r, I c, (.slice A l.length cp)], I q] w fun e w' => ∃ v, e = .returned (.tuple #[.agg #[I r, I c, v], .bool (scaleB r c l q)]) ∧ Own w' w.heap.size v (jK r c l q) ∧ Below w.heap.size w w' := by
 have N : Hid (aS w [(31, #[I r, I c, (.slice A l.length cp)]), (22, #[I q]), (31, #[I 0, I 0, .slice none 0 0])] (((w.alloc (.cells #[I r, I c, (.slice A l.length cp)] 31)).alloc (.cells #[I q] 22)).alloc (.cells #[I 0, I 0, .slice none 0 0] 31))) := Lib.hid ((((aS.none w).push (by simp) _ _).push (by simp) _ _).push (by simp) _ _)
 have O1 := Lib.hid (fun w' h => iL r c A l cp w' h hcp)
 have HA := Lib.hid hA
 obtain ⟨L, hL⟩ : ∃ L, jK r c l q = L := ⟨_, rfl⟩
 obtain ⟨b, hb⟩ : ∃ b, scaleB r c l q = b := ⟨_, rfl⟩
 have HM := Lib.hid (fun w' (h : aS w [(31, #[I r, I c, (.slice A l.length cp)]), (22, #[I q]), (31, #[I 0, I 0, .slice none 0 0])] w') => qE 129 #[.pointer (some ⟨w.heap.size, 0, none⟩), .pointer (some ⟨w.heap.size + 1, 0, none⟩)] r c _ _ w' L b hL hb hr hc OA (Ed r c A cp w.heap.size q l w' hr hc hl (hA.below h.be) h.r0 h.r1))
 rw [hL, hb]
 clear hr hc hl hA hcp hL hb
 have hmf := hmf
 go_enter Try.func125, Try.ntmps125
 go_wp2_with fail
 refine (O1.out _ (HA.out.below N.out.be)).mono ?_
 rintro e w4 ⟨rfl, hb⟩
 have N4 := Lib.hid (N.out.below hb)
 clear hb N
 go_wp2_with fail
 refine (HM.out _ N4.out).mono ?_
 rintro e w5 ⟨A2, c2, rfl, ho, hb⟩
 have O := Lib.hid ho
 have N5 := Lib.hid (N4.out.below hb)
 have L4 := N4.out.r2.lt
 clear ho hb
 have x3 := N5.out.r2.cell
 have g3 := N5.out.r2.free
 have t3 := N5.out.r2.lt
 go_wp2
 refine bodyPost_ret (I_ rfl rfl (N5.out.r2.bG _ _ _)) rfl ⟨_, rfl, ?_, Below.bG N5.out.be (by omega) _ _ _⟩
 exact (O.out.bG (by omega) _ _ _).lower (by omega)
def AL (c1 c2 : Nat) (l m : List Int) (i k : Nat) : Nat → Int × Bool
 | 0 => (0, false)
 | j + 1 =>
   let p := iD (l.getD (i * c1 + j) 0) (m.getD (j * c2 + k) 0)
   let t := gQ (AL c1 c2 l m i k j).1 p.1
   (t.1, (AL c1 c2 l m i k j).2 || p.2 || t.2)
def mulL (r c1 c2 : Nat) (l m : List Int) : List Int := upto c2 (fun i k => (AL c1 c2 l m i k c1).1) r
def qC (r c1 c2 : Nat) (l m : List Int) : Bool := sH c2 (fun i k => (AL c1 c2 l m i k c1).2) r
theorem JZ (r c1 c2 : Nat) (A A' : Option Addr) (cp cp' g : Nat) (l m : List Int) (w : World) (hr : r ≤ 8) (hc1 : c1 ≤ 8) (hc2 : c2 ≤ 8) (hl : l.length = r * c1) (hm : m.length = c1 * c2) (hA : Rd w A l) (hA' : Rd w A' m)
 (R : Row w g 31 #[I r, I c1, (.slice A l.length cp)]) (R' : Row w (g + 1) 31 #[I c1, I c2, (.slice A' m.length cp')]) :
 vZ w 114 #[.pointer (some ⟨g, 0, none⟩), .pointer (some ⟨g + 1, 0, none⟩)] r c2 (fun i k => (AL c1 c2 l m i k c1).1) (fun i k => (AL c1 c2 l m i k c1).2) := by
 intro i k w' hi hk hb
 have R1 := Lib.hid (R.below hb R.lt)
 have R2 := Lib.hid (R'.below hb R'.lt)
 have hle : r * c1 ≤ 8 * 8 := Nat.mul_le_mul hr hc1
 have hle2 : c1 * c2 ≤ 8 * 8 := Nat.mul_le_mul hc1 hc2
 have H1 := Lib.hid (fun w' j h (hj : j < c1) => jV r c1 A cp l i j w' h (by rw [hl]; exact lQ hi hj) (by rw [hl]; omega))
 have H2 := Lib.hid (fun w' j h (hj : j < c1) => jV c1 c2 A' cp' m j k w' h (by rw [hm]; exact lQ hj hk) (by rw [hm]; omega))
 have A1 := Lib.hid (hA.below hb)
 have A2 := Lib.hid (hA'.below hb)
 have HC := Lib.hid hc1
 show Calls Try.prog 114 #[I i, I k, .pointer (some ⟨g, 0, none⟩), .pointer (some ⟨g + 1, 0, none⟩)] w' fun e w'' => e = .returned (.tuple #[I (AL c1 c2 l m i k c1).1, .bool (AL c1 c2 l m i k c1).2]) ∧ Below w'.heap.size w' w''
 obtain ⟨f, hf⟩ : ∃ f, AL c1 c2 l m i k = f := ⟨_, rfl⟩
 have hs : ∀ j, f (j + 1) = ((gQ (f j).1 (iD (l.getD (i * c1 + j) 0) (m.getD (j * c2 + k) 0)).1).1, (f j).2 || (iD (l.getD (i * c1 + j) 0) (m.getD (j * c2 + k) 0)).2 || (gQ (f j).1 (iD (l.getD (i * c1 + j) 0) (m.getD (j * c2 + k) 0)).1).2) := fun j => by subst hf; rfl
 have h0 : f 0 = (0, false) := by subst hf; rfl
 rw [hf]
 have HF := Lib.hid hs
 have H0 := Lib.hid h0
 clear hb R R' hA hA' hr hc1 hc2 hle hle2 hl hm hf hs h0
 have K : Hid (∀ w2, Below w'.heap.size w' w2 → (∀ o, w2.cell? ⟨g, o, none⟩ = #[I r, I c1, (.slice A l.length cp)][o]?) ∧ (∀ o, w2.cell? ⟨g + 1, o, none⟩ = #[I c1, I c2, (.slice A' m.length cp')][o]?)) := Lib.hid (fun w2 hb => ⟨(R1.out.below hb R1.out.lt).cell, (R2.out.below hb R2.out.lt).cell⟩)
 have B0 := Lib.hid (Below.refl w'.heap.size w')
 have x2 := R1.out.cell
 have x3 := R2.out.cell
 clear R1 R2
 go_enter Try.func114, Try.ntmps114
 go_wp2_with fail
 go_loopw [8, 9, 17] (fun su od jj wr => ∃ (j : Nat) (sv : Int) (ov : Bool), j ≤ c1 ∧ jj = .int .i64 j ∧ su = .int .i64 sv ∧ od = .bool ov ∧ Hid (f j = (sv, ov)) ∧ Hid (Below w'.heap.size w' wr)) (fun _ _ jj _ => c1 - (intOf jj).toNat)
 case atStart => exact ⟨0, 0, false, by omega, rfl, rfl, rfl, Lib.hid H0.out, B0⟩
 case round =>
  clear B0
  obtain ⟨j, sv, ov, hj, rfl, rfl, rfl, F, B0⟩ := hrel
  clear x2 x3
  have x2 := (K.out _ B0.out).1
  have x3 := (K.out _ B0.out).2
  by_cases hjc : j = c1
  · subst hjc
    go_wp2
    go_ret2
    exact ⟨by rw [F.out]; rfl, B0.out⟩
  have hlt : (j : Int) < c1 := by omega
  have HJ := Lib.hid (show j < c1 by omega)
  have STEP : Hid (j + 1 ≤ c1 ∧ c1 - (j + 1) < c1 - j) := Lib.hid (by omega)
  have hw64 : IntKind.i64.wrap ((j : Int) + 1) = (j : Int) + 1 := by have := HC.out; simp [IntKind.wrap, IntKind.bits, IntKind.signed]; omega
  obtain ⟨x, hx⟩ : ∃ x, l.getD (i * c1 + j) 0 = x := ⟨_, rfl⟩
  obtain ⟨y, hy⟩ : ∃ y, m.getD (j * c2 + k) 0 = y := ⟨_, rfl⟩
  obtain ⟨p, hp⟩ : ∃ p, iD x y = p := ⟨_, rfl⟩
  obtain ⟨p1, p2⟩ := p
  obtain ⟨t, ht⟩ : ∃ t, gQ sv p1 = t := ⟨_, rfl⟩
  obtain ⟨t1, t2⟩ := t
  have F2 : Hid (f (j + 1) = (t1, ov || p2 || t2)) := Lib.hid (by rw [HF.out, F.out, hx, hy, hp]; dsimp only; rw [ht])
  have G1 := Lib.hid (fun w' h => H1.out w' j h HJ.out)
  have G2 := Lib.hid (fun w' h => H2.out w' j h HJ.out)
  have G3 := Lib.hid (fun w => eH x y w)
  have G4 := Lib.hid (fun w => nP sv p1 w)
  rw [hx] at G1
  rw [hy] at G2
  rw [hp] at G3
  rw [ht] at G4
  dsimp only at G3 G4
  clear hx hy hp ht hj hjc
  have B1 := Lib.hid B0.out.drew
  go_wp2_with fail
  go_region_held3 (fun w2 => (∀ o, w2.cell? ⟨g, o, none⟩ = #[I r, I c1, (.slice A l.length cp)][o]?) ∧ (∀ o, w2.cell? ⟨g + 1, o, none⟩ = #[I c1, I c2, (.slice A' m.length cp')][o]?))
   (first | with_reducible exact K.out _ B4.out | with_reducible exact K.out _ B3.out | with_reducible exact K.out _ B2.out | with_reducible exact K.out _ B1.out | with_reducible exact K.out _ B0.out)
   (first
     | (go_at_call 67
        refine (G3.out _).mono ?_
        rintro e w4 ⟨rfl, hb⟩
        have B4 := Lib.hid (B3.out.trans (hb.mono B3.out.size))
        clear hb)
     | (go_at_call 110
        refine (G2.out _ (A2.out.below B2.out)).mono ?_
        rintro e w3 ⟨rfl, hb⟩
        have B3 := Lib.hid (B2.out.trans (hb.mono B2.out.size))
        clear hb)
     | (go_at_call 110
        refine (G1.out _ (A1.out.below B1.out)).mono ?_
        rintro e w2 ⟨rfl, hb⟩
        have B2 := Lib.hid (B1.out.trans (hb.mono B1.out.size))
        clear hb))
  go_wp2_with fail
  refine (G4.out _).mono ?_
  rintro e w5 ⟨rfl, hb⟩
  have B5 := Lib.hid (B4.out.trans (hb.mono B4.out.size))
  clear hb
  cases ov
  · cases p2
    all_goals
     go_wp2
     go_roundw
     case rel => exact ⟨j + 1, t1, _, STEP.out.1, by go_num, rfl, rfl, by simpa using F2, B5⟩
     case measure =>
      have h := STEP.out.2
      show c1 - ((j : Int) + 1).toNat < c1 - ((j : Int)).toNat
      rw [show ((j : Int) + 1).toNat = j + 1 by omega, show ((j : Int)).toNat = j by omega]
      exact h
  · go_wp2
    go_roundw
    case rel => exact ⟨j + 1, t1, _, STEP.out.1, by go_num, rfl, rfl, by simpa using F2, B5⟩
    case measure =>
     have h := STEP.out.2
     show c1 - ((j : Int) + 1).toNat < c1 - ((j : Int)).toNat
     rw [show ((j : Int) + 1).toNat = j + 1 by omega, show ((j : Int)).toNat = j by omega]
     exact h
theorem vH (r c1 c2 : Nat) (A A' : Option Addr) (cp cp' : Nat) (l m : List Int) (w : World) (hr : r ≤ 8) (hc1 : c1 ≤ 8) (hc2 : c2 ≤ 8) (hl : l.length = r * c1) (hm : m.length = c1 * c2) (hA : Rd w A l) (hA' : Rd w A' m) :
 Calls Try.prog 101 #[.agg #[I r, I c1, (.slice A l.length cp)], .agg #[I c1, I c2, (.slice A' m.length cp')]] w fun e w' => ∃ v, e = .returned (.tuple #[.agg #[I r, I c2, v], .bool (qC r c1 c2 l m), I 0]) ∧ Own w' w.heap.size v (mulL r c1 c2 l m) ∧ Below w.heap.size w w' := by
 have N : Hid (aS w [(31, #[I r, I c1, (.slice A l.length cp)]), (31, #[I c1, I c2, (.slice A' m.length cp')]), (31, #[I 0, I 0, .slice none 0 0])] (((w.alloc (.cells #[I r, I c1, (.slice A l.length cp)] 31)).alloc (.cells #[I c1, I c2, (.slice A' m.length cp')] 31)).alloc (.cells #[I 0, I 0, .slice none 0 0] 31))) := Lib.hid ((((aS.none w).push (by simp) _ _).push (by simp) _ _).push (by simp) _ _)
 obtain ⟨L, hL⟩ : ∃ L, mulL r c1 c2 l m = L := ⟨_, rfl⟩
 obtain ⟨b, hb⟩ : ∃ b, qC r c1 c2 l m = b := ⟨_, rfl⟩
 have HM := Lib.hid (qE 114 #[.pointer (some ⟨w.heap.size, 0, none⟩), .pointer (some ⟨w.heap.size + 1, 0, none⟩)] r c2 _ _ _ L b hL hb hr hc2 OD (JZ r c1 c2 A A' cp cp' w.heap.size l m _ hr hc1 hc2 hl hm (hA.below N.out.be) (hA'.below N.out.be) N.out.r0 N.out.r1))
 rw [hL, hb]
 clear hr hc1 hc2 hl hm hA hA' hL hb
 have hmf := hmf
 have e1 : ((c1 : Int) != (c1 : Int)) = false := by simp
 go_enter Try.func101, Try.ntmps101
 go_wp2_with fail
 refine HM.out.mono ?_
 rintro e w5 ⟨A2, c3, rfl, ho, hb⟩
 have O := Lib.hid ho
 have N5 := Lib.hid (N.out.below hb)
 clear ho hb N HM
 have x3 := N5.out.r2.cell
 have g3 := N5.out.r2.free
 have t3 := N5.out.r2.lt
 go_wp2
 refine bodyPost_ret (rG rfl rfl ((N5.out.r2.bG _ _ _).alloc _)) rfl ⟨_, rfl, ?_, (Below.bG N5.out.be (by omega) _ _ _).alloc (by have := N5.out.be.size; simp; omega) _⟩
 exact ((O.out.bG (by simp) _ _ _).alloc _).lower (by simp; omega)
theorem EL (r c1 r2 c2 : Int) (A A' : Option Addr) (cp cp' : Nat) (l m : List Int) (w : World) (hne : c1 ≠ r2) :
 Calls Try.prog 101 #[.agg #[I r, I c1, (.slice A l.length cp)], .agg #[I r2, I c2, (.slice A' m.length cp')]] w fun e w' => e = .returned (.tuple #[.agg #[I 0, I 0, .slice none 0 0], .bool false, I 9]) ∧ Below w.heap.size w w' := by
 have N : Hid (aS w [(31, #[I r, I c1, (.slice A l.length cp)]), (31, #[I r2, I c2, (.slice A' m.length cp')]), (31, #[I 0, I 0, .slice none 0 0])] (((w.alloc (.cells #[I r, I c1, (.slice A l.length cp)] 31)).alloc (.cells #[I r2, I c2, (.slice A' m.length cp')] 31)).alloc (.cells #[I 0, I 0, .slice none 0 0] 31))) := Lib.hid ((((aS.none w).push (by simp) _ _).push (by simp) _ _).push (by simp) _ _)
 have e1 : (c1 != r2) = true := by simpa using hne
 clear hne
 have x3 := N.out.r2.cell
 have g3 := N.out.r2.free
 go_enter Try.func101, Try.ntmps101
 go_wp2
 exact bodyPost_ret (rG rfl rfl N.out.r2) rfl ⟨rfl, N.out.be⟩
end Go.Proofs.Ytnijhjbcjeohhaa.KK

namespace Go.Proofs.Ytnijhjbcjeohhaa.KK
open Go.RowKit Go.Proofs.af.aA Go.Proofs.af.aN Go.Proofs.af.aP
set_option linter.unusedVariables false
set_option linter.unusedSimpArgs false
def ng (q : Int) : Bool := decide (q < -70368744177664) || decide (q > 70368744177663)
theorem Hq (q : Int) (w : World) : Calls Try.prog 106 #[I q] w fun e w' => e = .returned (.bool (ng q)) ∧ Below w.heap.size w w' := by
 by_cases h : q < -70368744177664
 · have h0 : decide (q < -70368744177664) = true := decide_eq_true h
   clear h
   go_enter Try.func106, Try.ntmps106
   go_wp2
   go_ret
   exact ⟨by simp [ng, h0], Below.refl _ _⟩
 · have h0 : decide (q < -70368744177664) = false := decide_eq_false h
   clear h
   go_enter Try.func106, Try.ntmps106
   go_wp2
   go_ret
   exact ⟨by simp [ng, h0], Below.refl _ _⟩
theorem take_any {l : List Int} {j : Nat} {x : Int} (h : l[j]? = some x) (ha : (l.take j).any ng = false) (hx : ng x = false) : (l.take (j + 1)).any ng = false := by
 rw [List.take_add_one, h, List.any_append, ha]
 simp [hx]
theorem VX {l : List Int} {j : Nat} {x : Int} (h : l[j]? = some x) (hx : ng x = true) : l.any ng = true :=
 List.any_eq_true.2 ⟨x, List.mem_of_getElem? h, hx⟩
theorem rQ (A : Option Addr) (c : Nat) (l : List Int) (w : World) (hw : Rd w A l) (hlen : l.length ≤ 1000000) :
 Calls Try.prog 81 #[.slice A l.length c, .func (.func 106) #[] #[]] w fun e w' => ∃ x, e = .returned (I x) ∧ decide (x ≥ 0) = l.any ng ∧ Below w.heap.size w w' := by
 have HW := Lib.hid hw
 have HL := Lib.hid hlen
 clear hw hlen
 go_enter Try.func81, Try.ntmps81
 go_wp2_with fail
 go_loopw [8] (fun i wr => ∃ k : Nat, k ≤ l.length ∧ i = .int .i64 k ∧ Hid ((l.take k).any ng = false) ∧ Hid (Below w.heap.size w wr)) (fun i _ => l.length - (intOf i).toNat)
 case atStart => exact ⟨0, by omega, rfl, Lib.hid (by simp), Lib.hid (Below.refl _ _)⟩
 case round =>
  obtain ⟨k, hk, rfl, F, HB⟩ := hrel
  by_cases hkl : k = l.length
  · subst hkl
    go_wp2
    go_ret
    exact ⟨_, rfl, by have := F.out; rw [List.take_length] at this; rw [this]; rfl, HB.out⟩
  have hlt : (k : Int) < l.length := by omega
  have hk0 : (0 : Int) ≤ k := by omega
  have STEP : Hid (k + 1 ≤ l.length ∧ l.length - (k + 1) < l.length - k) := Lib.hid (by omega)
  have hw64 : IntKind.i64.wrap ((k : Int) + 1) = (k : Int) + 1 := by have := HL.out; simp [IntKind.wrap, IntKind.bits, IntKind.signed]; omega
  obtain ⟨b, off, rfl, hb, hc⟩ := (HW.out.below HB.out).cells (by omega)
  obtain ⟨x, hx⟩ : ∃ x, l[k]? = some x := ⟨l[k]'(by omega), List.getElem?_eq_getElem (by omega)⟩
  have c0 := hc k x hx
  have HX := Lib.hid hx
  clear hc hx hk hkl
  go_wp2_with fail
  refine (Hq x _).mono ?_
  rintro e w2 ⟨rfl, hb2⟩
  have HB2 := Lib.hid (HB.out.trans (hb2.mono HB.out.size))
  clear hb2
  cases hq : ng x
  · have HQ := Lib.hid hq
    clear hq
    go_wp2
    go_roundw
    case rel => exact ⟨k + 1, STEP.out.1, by go_num, Lib.hid (take_any HX.out F.out HQ.out), HB2⟩
    case measure =>
     have h := STEP.out.2
     show l.length - ((k : Int) + 1).toNat < l.length - ((k : Int)).toNat
     rw [show ((k : Int) + 1).toNat = k + 1 by omega, show ((k : Int)).toNat = k by omega]
     exact h
  · have HQ := Lib.hid hq
    clear hq
    go_wp2
    go_ret
    exact ⟨_, rfl, by rw [VX HX.out HQ.out]; simp, HB2.out⟩
theorem oD (A : Option Addr) (c : Nat) (l : List Int) (w : World) (hw : Rd w A l) (hlen : l.length ≤ 1000000) :
 Calls Try.prog 55 #[.slice A l.length c, .func (.func 106) #[] #[]] w fun e w' => e = .returned (.bool (l.any ng)) ∧ Below w.heap.size w w' := by
 have H := Lib.hid (rQ A c l w hw hlen)
 clear hw hlen
 go_enter Try.func55, Try.ntmps55
 go_wp2_with fail
 refine H.out.mono ?_
 rintro e w2 ⟨x, rfl, hx, hb⟩
 have HB := Lib.hid hb
 have HX := Lib.hid hx
 clear hb hx
 go_wp2
 go_ret
 exact ⟨by rw [← HX.out]; rfl, HB.out⟩
def kD (r c : Int) (l : List Int) : Bool := decide (r ≥ 1) && decide (r ≤ 8) && decide (c ≥ 1) && decide (c ≤ 8) && ((l.length : Int) == wrap64 (r * c)) && !l.any ng
theorem rE (r c : Int) (A : Option Addr) (cp : Nat) (l : List Int) (w : World) (hw : Rd w A l) :
 Calls Try.prog 75 #[.agg #[I r, I c, (.slice A l.length cp)]] w fun e w' => e = .returned (.bool (kD r c l)) ∧ Below w.heap.size w w' := by
 have N : Hid (aS w [(31, #[I r, I c, (.slice A l.length cp)])] (w.alloc (.cells #[I r, I c, (.slice A l.length cp)] 31))) := Lib.hid ((aS.none w).push (by simp) _ _)
 have HW := Lib.hid hw
 clear hw
 cases h0 : decide (r ≥ 1)
 · go_enter Try.func75, Try.ntmps75
   go_wp2
   go_ret
   exact ⟨by simp [kD, *], N.out.be⟩
 cases h1 : decide (r ≤ 8)
 · go_enter Try.func75, Try.ntmps75
   go_wp2
   go_ret
   exact ⟨by simp [kD, *], N.out.be⟩
 cases h2 : decide (c ≥ 1)
 · go_enter Try.func75, Try.ntmps75
   go_wp2
   go_ret
   exact ⟨by simp [kD, *], N.out.be⟩
 cases h3 : decide (c ≤ 8)
 · go_enter Try.func75, Try.ntmps75
   go_wp2
   go_ret
   exact ⟨by simp [kD, *], N.out.be⟩
 cases h4 : ((l.length : Int) == wrap64 (r * c))
 · go_enter Try.func75, Try.ntmps75
   go_wp2
   go_ret
   exact ⟨by simp [kD, *], N.out.be⟩
 have hlen : l.length ≤ 1000000 := by
  have a0 := of_decide_eq_true h0
  have a1 := of_decide_eq_true h1
  have a2 := of_decide_eq_true h2
  have a3 := of_decide_eq_true h3
  have a4 : (l.length : Int) = wrap64 (r * c) := by simpa using h4
  have b0 : 0 ≤ r * c := Int.mul_nonneg (by omega) (by omega)
  have b1 : r * c ≤ 8 * c := Int.mul_le_mul_of_nonneg_right (by omega) (by omega)
  unfold wrap64 at a4
  omega
 have H := Lib.hid (oD A cp l _ (HW.out.below N.out.be) hlen)
 obtain ⟨b, hb⟩ : ∃ b, l.any ng = b := ⟨_, rfl⟩
 have HB := Lib.hid hb
 rw [hb] at H
 clear hb hlen
 go_enter Try.func75, Try.ntmps75
 go_wp2_with fail
 refine H.out.mono ?_
 rintro e w2 ⟨rfl, hb⟩
 have N2 := Lib.hid (N.out.below hb)
 clear hb
 go_wp2
 go_ret
 exact ⟨by simp [kD, HB.out, *], N2.out.be⟩
theorem Rd.flat {w : World} {ad : Addr} {l : List Int} (h : Rd w (some ad) l) : ∀ j u, (l.map I)[j]? = some u → w.cell? (ad.add j) = some u := by
 intro j u hj
 rw [List.getElem?_map] at hj
 cases hx : l[j]? with
 | none => rw [hx] at hj; cases hj
 | some x =>
   rw [hx] at hj
   injection hj with hj
   subst hj
   have hl : j < l.length := by
    rcases Nat.lt_or_ge j l.length with h | h
    · exact h
    · rw [List.getElem?_eq_none h] at hx; cases hx
   obtain ⟨b, off, e, _, hc⟩ := h.cells (by omega)
   injection e with e
   subst e
   have := hc j x hx
   unfold Addr.add
   by_cases h0 : j = 0
   · subst h0; simpa using this
   · rw [if_neg h0]; exact this
theorem FU (A : Option Addr) (c : Nat) (l : List Int) (w : World) (hw : Rd w A l) (hlen : l.length ≤ 1000000) (hA : A = none → l.length = 0 ∧ c = 0) :
 Calls Try.prog 58 #[.slice A l.length c] w fun e w' => ∃ v, e = .returned v ∧ Own w' w.heap.size v l ∧ Below w.heap.size w w' := by
 cases A with
 | none =>
   obtain ⟨hl, rfl⟩ := hA rfl
   obtain rfl := List.eq_nil_of_length_eq_zero hl
   have he : ∀ w : World, (binOp .eql 29 (.slice none 0 0) (.slice none 0 0)).run Try.prog w = .ok (.bool true) w := fun _ => rfl
   go_enter Try.func58, Try.ntmps58
   go_wp2
   go_ret
   exact ⟨_, rfl, Own.nil _ _, Below.refl _ _⟩
 | some ad =>
   have HW := Lib.hid hw
   have HL := Lib.hid hlen
   clear hw hlen hA
   go_enter Try.func58, Try.ntmps58
   have he : ∀ w : World, (binOp .eql 29 (.slice (some ad) l.length c) (.slice none 0 0)).run Try.prog w = .ok (.bool false) w := fun _ => rfl
   obtain ⟨i0, hi0, hz0, hz1, hz2⟩ := info_parts G7
   go_wp2_with (at_builtin
                refine wpList_append_own_at _ rfl (.tmp 5) (.tmp 6) _ rfl w.heap.size 22 i0 _ 1 8 Try.underlying29 hi0 hz0 hz1 hz2 rfl (by omega) (.slice (some ⟨w.heap.size, 0, none⟩) 0 0) 0 [] rfl ?own ad l.length c (l.map I) rfl (by simp) ?news ?one ?h63 ?hby ?base ?_
                case own => exact ⟨rfl, .inr ⟨_, 0, #[], rfl, Nat.le_refl _, heap_alloc_new w _, Nat.le_refl _, by simp [maxLen], rfl, rfl⟩⟩
                case news => exact (HW.out.below ((Below.refl _ _).alloc (Nat.le_refl _) _)).flat
                case one => (intro u hu; simp at hu; obtain ⟨q, _, rfl⟩ := hu; rfl)
                case h63 => (have := HL.out; simp only [maxLen]; omega)
                case hby => (have := HL.out; omega)
                case base => simp
                intro v' w' hown hgrow hnil hat)
   go_ret
   exact ⟨v', rfl, Own.rM (by simpa using hown), ((Below.refl _ _).alloc (Nat.le_refl _) _).grown hgrow (by simp) (by intro k hk; simp [Value.ownBlock] at hk; omega)⟩
def eF (l : List Int) : List Int := upto l.length (fun i k => if i = k then l.getD i 0 else 0) l.length
theorem OH : Enters 83 := enters Try.func83 rfl rfl
theorem GU (A : Option Addr) (cp g : Nat) (l : List Int) (w : World) (hl : l.length ≤ 8) (hA : Rd w A l) (R : Row w g 29 #[(.slice A l.length cp)]) :
 vZ w 83 #[.pointer (some ⟨g, 0, none⟩)] l.length l.length (fun i k => if i = k then l.getD i 0 else 0) (fun _ _ => false) := by
 intro i k w' hi hk hb
 have R' := R.below hb R.lt
 have x := R'.cell
 show Calls Try.prog 83 #[I i, I k, .pointer (some ⟨g, 0, none⟩)] w' fun e w'' => e = .returned (.tuple #[I (if i = k then l.getD i 0 else 0), .bool false]) ∧ Below w'.heap.size w' w''
 by_cases h : i = k
 · subst h
   rw [if_pos rfl]
   obtain ⟨b, off, rfl, _, hc⟩ := (hA.below hb).cells (by omega)
   have c0 := hc i _ (oW hi)
   obtain ⟨y, hy⟩ : ∃ y, l.getD i 0 = y := ⟨_, rfl⟩
   rw [hy] at c0 ⊢
   have e0 : ((i : Int) == (i : Int)) = true := by simp
   have i0 : (0 : Int) ≤ i := by omega
   have i1 : (i : Int) < l.length := by omega
   clear hb hc hy hA hi hk hl R R'
   go_enter Try.func83, Try.ntmps83
   go_wp2
   go_ret2
   exact ⟨rfl, Below.refl _ _⟩
 · rw [if_neg h]
   have e0 : ((i : Int) == (k : Int)) = false := by simp; omega
   clear hb hA hi hk hl R R' h
   go_enter Try.func83, Try.ntmps83
   go_wp2
   go_ret2
   exact ⟨rfl, Below.refl _ _⟩
theorem Kr (l : List Int) (h1 : 1 ≤ l.length) (h8 : l.length ≤ 8) : kD 1 l.length l = !l.any ng := by
 have e : wrap64 (1 * (l.length : Int)) = l.length := by unfold wrap64; omega
 have e1 : decide ((l.length : Int) ≥ 1) = true := decide_eq_true (by omega)
 have e2 : decide ((l.length : Int) ≤ 8) = true := decide_eq_true (by omega)
 simp only [kD, e, e1, e2]
 simp
theorem wV (A : Option Addr) (cp : Nat) (l : List Int) (w : World) (hA : Rd w A l) (h1 : 1 ≤ l.length) (h8 : l.length ≤ 8) (ha : l.any ng = false) :
 Calls Try.prog 57 #[(.slice A l.length cp)] w fun e w' => ∃ v, e = .returned (.tuple #[.agg #[I l.length, I l.length, v], I 0]) ∧ Own w' w.heap.size v (eF l) ∧ Below w.heap.size w w' := by
 have N : Hid (aS w [(29, #[(.slice A l.length cp)]), (31, #[I 0, I 0, .slice none 0 0])] ((w.alloc (.cells #[(.slice A l.length cp)] 29)).alloc (.cells #[I 0, I 0, .slice none 0 0] 31))) := Lib.hid (((aS.none w).push (by simp) _ _).push (by simp) _ _)
 have e1 : decide ((l.length : Int) < 1) = false := decide_eq_false (by omega)
 have e2 : decide ((l.length : Int) > 8) = false := decide_eq_false (by omega)
 have H := Lib.hid (rE 1 l.length A cp l _ (hA.below N.out.be))
 rw [Kr l (by omega) (by omega), ha] at H
 obtain ⟨L, hL⟩ : ∃ L, eF l = L := ⟨_, rfl⟩
 have HM := Lib.hid (fun w' (h : aS w [(29, #[(.slice A l.length cp)]), (31, #[I 0, I 0, .slice none 0 0])] w') => qE 83 #[.pointer (some ⟨w.heap.size, 0, none⟩)] l.length l.length _ _ w' L false hL (xG _ _) h8 h8 OH (GU A cp w.heap.size l w' h8 (hA.below h.be) h.r0))
 rw [hL]
 clear h1 h8 ha hA hL
 have hmf := hmf
 go_enter Try.func57, Try.ntmps57
 go_wp2_with fail
 refine H.out.mono ?_
 rintro e w2 ⟨rfl, hb⟩
 have N2 := Lib.hid (N.out.below hb)
 clear hb
 go_wp2_with fail
 refine (HM.out _ N2.out).mono ?_
 rintro e w5 ⟨A2, c2, rfl, ho, hb⟩
 have O := Lib.hid ho
 have N5 := Lib.hid (N2.out.below hb)
 have L4 := N2.out.r1.lt
 clear ho hb
 have x1 := N5.out.r1.cell
 have g1 := N5.out.r1.free
 have t1 := N5.out.r1.lt
 go_wp2
 refine bodyPost_ret (I_ rfl rfl ((N5.out.r1.bG _ _ _).alloc _)) rfl ⟨_, rfl, ?_, (Below.bG N5.out.be (by omega) _ _ _).alloc (by have := N5.out.be.size; simp; omega) _⟩
 exact ((O.out.bG (by omega) _ _ _).alloc _).lower (by omega)
end Go.Proofs.Ytnijhjbcjeohhaa.KK

namespace Go.Proofs.Ytnijhjbcjeohhaa.KK
open Go.RowKit Go.Proofs.af.aA Go.Proofs.af.aN Go.Proofs.af.aP
set_option linter.unusedVariables false
set_option linter.unusedSimpArgs false
theorem uA (r c : Nat) (l : List Int) : (xP r c l).length = c * r := upto_length
def BG (n : Nat) (l : List Int) : List Int := iy kS n n l (xP n n l)
theorem LD (n : Nat) (A : Option Addr) (cp : Nat) (l : List Int) (w : World) (hn : n ≤ 8) (hl : l.length = n * n) (hA : Rd w A l) (hcp : l.length ≤ cp) :
 Calls Try.prog 116 #[.agg #[I n, I n, .slice A l.length cp]] w fun e w' => ∃ v, e = .returned (.tuple #[.agg #[I n, I n, v], .bool (jf kS n n l (xP n n l)), I 0]) ∧ Own w' w.heap.size v (BG n l) ∧ Below w.heap.size w w' := by
 have N : Hid (aS w [(31, #[I n, I n, .slice A l.length cp]), (31, #[I 0, I 0, .slice none 0 0])] ((w.alloc (.cells #[I n, I n, .slice A l.length cp] 31)).alloc (.cells #[I 0, I 0, .slice none 0 0] 31))) := Lib.hid (((aS.none w).push (by simp) _ _).push (by simp) _ _)
 have HA := Lib.hid hA
 have HT := Lib.hid (fun w' h => l_ n n A cp l w' hn hn hl h)
 have HE := Lib.hid (fun A' cp' w' h h' hc => LH n n A A' cp cp' l (xP n n l) w' hn hn hl (uA n n l) h h' hcp hc)
 obtain ⟨T, hT⟩ : ∃ T, xP n n l = T := ⟨_, rfl⟩
 rw [hT] at HT HE
 unfold BG
 rw [hT]
 obtain ⟨L, hL⟩ : ∃ L, iy kS n n l T = L := ⟨_, rfl⟩
 obtain ⟨b, hb⟩ : ∃ b, jf kS n n l T = b := ⟨_, rfl⟩
 rw [hL, hb] at HE
 rw [hL, hb]
 have KK : Hid (∀ w', aS w [(31, #[I n, I n, .slice A l.length cp]), (31, #[I 0, I 0, .slice none 0 0])] w' → ∀ o, w'.cell? ⟨w.heap.size, o, none⟩ = #[I n, I n, .slice A l.length cp][o]?) := Lib.hid (fun w' h => h.r0.cell)
 clear hn hl hA hcp hT hL hb
 have y0 := N.out.r0.cell
 go_enter Try.func116, Try.ntmps116
 go_wp2_with fail
 go_region_held3 (fun w' => ∀ o, w'.cell? ⟨w.heap.size, o, none⟩ = #[I n, I n, .slice A l.length cp][o]?)
  (first | with_reducible exact KK.out _ N3.out | with_reducible exact KK.out _ N2.out | with_reducible exact KK.out _ N.out.drew | exact (Row.oM N3.out.r0 (C := w.heap.size + 1) (by simp)).cell)
  (first
    | (go_at_call 115
       refine (HE.out _ _ _ (HA.out.below N2.out.be) RT.out CT.out).mono ?_
       rintro e w3 ⟨A3, c3, rfl, ho, hb⟩
       have O := Lib.hid ho
       have N3 := Lib.hid (N2.out.below hb)
       have L3 := N2.out.r1.lt
       have x1 := N3.out.r1.cell
       have g1 := N3.out.r1.free
       clear hb ho)
    | (go_at_call 77
       refine (HT.out _ (HA.out.below N.out.drew.be)).mono ?_
       rintro e w2 ⟨v, rfl, ho, hb⟩
       obtain ⟨A2, c2, rfl, ht, rt⟩ := ho.reads
       have RT := Lib.hid rt
       have CT := Lib.hid ht
       have N2 := Lib.hid (N.out.drew.below hb)
       clear hb ho rt ht))
 all_goals
  go_wp2
  refine bodyPost_ret (rG rfl rfl (N3.out.r1.bG _ _ _)) rfl ⟨_, rfl, ?_, Below.bG N3.out.be (by omega) _ _ _⟩
  exact (O.out.bG (by omega) _ _ _).lower (by omega)
end Go.Proofs.Ytnijhjbcjeohhaa.KK

namespace Go.Proofs.Ytnijhjbcjeohhaa.KK
open Go.RowKit Go.Proofs.af.aA Go.Proofs.af.aN Go.Proofs.af.aP
set_option linter.unusedVariables false
set_option linter.unusedSimpArgs false
def EC : List Value → Nat → List Value → List Value
 | l, _, [] => l
 | l, o, v :: vs => EC (l.set o v) (o + 1) vs
theorem Row.setCells {B : Nat} {t : TypeId} : ∀ (vs : List Value) (o : Nat) (w : World) (arr : Array Value), Row w B t arr → ∃ L9, Row (w.setCells B o vs) B t L9 ∧ L9.toList = EC arr.toList o vs := by
 intro vs
 induction vs with
 | nil => intro o w arr h; exact ⟨arr, h, rfl⟩
 | cons v vs ih =>
   intro o w arr h
   obtain ⟨L9, h1, h2⟩ := ih (o + 1) _ _ (h.set o v)
   refine ⟨L9, h1, ?_⟩
   rw [h2]
   simp [EC]
theorem dF {B n : Nat} {w0 : World} : ∀ (vs : List Value) (o : Nat) (w : World), Below n w0 w → n ≤ B → Below n w0 (w.setCells B o vs) := by
 intro vs
 induction vs with
 | nil => intro o w h _; exact h
 | cons v vs ih => intro o w h hB; exact ih (o + 1) _ (h.setCell (p := ⟨B, o, none⟩) hB v) hB
theorem Nj (a b : Value) : ∀ (k j m : Nat), k ≤ m → EC (List.replicate j a ++ List.replicate m b) j (List.replicate k a) = List.replicate (j + k) a ++ List.replicate (m - k) b := by
 intro k
 induction k with
 | zero => intro j m _; simp [EC]
 | succ k ih =>
   intro j m h
   obtain ⟨m', rfl⟩ : ∃ m', m = m' + 1 := ⟨m - 1, by omega⟩
   show EC ((List.replicate j a ++ List.replicate (m' + 1) b).set j a) (j + 1) (List.replicate k a) = _
   have e : (List.replicate j a ++ List.replicate (m' + 1) b).set j a = List.replicate (j + 1) a ++ List.replicate m' b := by
    rw [List.set_append_right _ _ (by simp)]
    rw [List.length_replicate, Nat.sub_self, List.replicate_succ, List.set_cons_zero, show j + 1 = j + 1 from rfl, List.replicate_succ' (n := j), List.append_assoc]
    rfl
   rw [e, ih (j + 1) m' (by omega), show j + 1 + k = j + (k + 1) by omega, show m' - k = m' + 1 - (k + 1) by omega]
def Rep (w : World) (B n : Nat) (q : Int) (j : Nat) : Prop := ∃ arr, Row w B 22 arr ∧ arr.toList = List.replicate j (I q) ++ List.replicate (n - j) (I 0)
theorem Rep.cell {w : World} {B n : Nat} {q : Int} {j : Nat} (h : Rep w B n q j) {x : Nat} (hx : x < j) : w.cell? ⟨B, x, none⟩ = some (I q) := by
 obtain ⟨arr, hr, ha⟩ := h
 rw [hr.cell x, ← Array.getElem?_toList, ha, List.getElem?_append_left (by simpa using hx)]
 simp [hx]
theorem Rep.some {w : World} {B n : Nat} {q : Int} {j : Nat} (h : Rep w B n q j) {x : Nat} (hx : x < n) (hj : j ≤ n) : (w.cell? ⟨B, x, none⟩).isSome = true := by
 obtain ⟨arr, hr, ha⟩ := h
 have hs : arr.size = n := by rw [← Array.length_toList, ha]; simp; omega
 rw [hr.cell x, Array.getElem?_eq_getElem (by omega)]
 rfl
theorem Rep.free {w : World} {B n : Nat} {q : Int} {j : Nat} (h : Rep w B n q j) (x : Nat) : w.frozen? ⟨B, x, none⟩ = false := by
 obtain ⟨arr, hr, _⟩ := h
 exact hr.free x
theorem Rep.put {w : World} {B n : Nat} {q : Int} {j k : Nat} (h : Rep w B n q j) (hk : j + k ≤ n) : Rep (w.setCells B j (List.replicate k (I q))) B n q (j + k) := by
 obtain ⟨arr, hr, ha⟩ := h
 obtain ⟨L9, h1, h2⟩ := hr.setCells (List.replicate k (I q)) j
 exact ⟨L9, h1, by rw [h2, ha, Nj _ _ _ _ _ (by omega), show n - j - k = n - (j + k) by omega]⟩
theorem Rep.drew {w : World} {B n : Nat} {q : Int} {j : Nat} (h : Rep w B n q j) : Rep w.drew B n q j := h
theorem Rep.own {w : World} {B n base : Nat} {q : Int} (h : Rep w B n q n) (hb : base ≤ B) (hn : n ≤ 1000000) : Own w base (.slice (Option.some ⟨B, 0, none⟩) n n) (List.replicate n q) := by
 obtain ⟨arr, hr, ha⟩ := h
 have hs : arr.size = n := by rw [← Array.length_toList, ha]; simp
 have hl : (List.replicate n q).length = n := by simp
 refine Own.rM ⟨by rw [hl]; simp, .inr ⟨B, n, arr, by rw [hl], hb, hr, by rw [hl]; omega, by simp only [maxLen]; omega, by rw [hs]; omega, ?_⟩⟩
 rw [hl, Nat.mul_one, ha, Nat.sub_self]
 simp
theorem FT (w : World) (ty : TypeId) (B j dLen dCap b sLen sCap k : Nat) (q : Int) (hk : k = Nat.min sLen dLen)
 (hsrc : ∀ x, x < k → w.cell? ⟨b, x, none⟩ = some (I q)) (hc : ∀ x, x < k → (w.cell? ⟨B, j + x, none⟩).isSome = true) (hf : ∀ x, w.frozen? ⟨B, x, none⟩ = false) :
 (Builtin.copy_ #[29, 29] ty #[.slice (some ⟨B, j, none⟩) dLen dCap, .slice (some ⟨b, 0, none⟩) sLen sCap]).run Try.prog w = .ok (I k) (w.setCells B j (List.replicate k (I q))) := by
 have h := run_copy_cells (P := Try.prog) w 29 29 ty 22 B j dLen dCap ⟨b, 0, none⟩ sLen sCap (List.replicate k (I q)) Try.underlying29 (by kernel_rfl) (by simpa using hk)
  (fun x v hx => by
    rw [List.getElem?_replicate] at hx
    split at hx
    · injection hx with hx
      subst hx
      have := hsrc x (by assumption)
      unfold Addr.add
      by_cases h0 : x = 0
      · subst h0; simpa using this
      · rw [if_neg h0]; simpa using this
    · cases hx)
  (fun x hx => hc x (by simpa using hx)) (fun x hx => hf _) (fun v hv => by rw [List.eq_of_mem_replicate hv]; rfl)
 simpa [goInt] using h
theorem J_ (w : World) {ops : Array Oper} {o : Oper} {a : Act} {K : Act → World → Prop} {Q : Exit → Act → World → Prop} {E : Prop} (hg : o.guard = none) (d s : Operand)
 (hop : o.op = .call { callee := .builtin .copy, args := #[d, s], argTypes := #[29, 29] })
 (B j dLen dCap b sLen sCap k : Nat) (q : Int) (hd : a.eval d = .slice (some ⟨B, j, none⟩) dLen dCap) (hs : a.eval s = .slice (some ⟨b, 0, none⟩) sLen sCap) (hk : k = Nat.min sLen dLen)
 (hsrc : ∀ x, x < k → w.cell? ⟨b, x, none⟩ = some (I q)) (hc : ∀ x, x < k → (w.cell? ⟨B, j + x, none⟩).isSome = true) (hf : ∀ x, w.frozen? ⟨B, x, none⟩ = false)
 (hK : K (a.put o.dst (I k)) (w.setCells B j (List.replicate k (I q)))) :
 if Region.wanted o (yielded ops a.tmps) = true then Oper.wp Try.prog o a w K Q else E := by
 have hw : Region.wanted o (yielded ops a.tmps) = true := by simp [Region.wanted, hg]
 rw [if_pos hw]
 have hrun := FT w o.type B j dLen dCap b sLen sCap k q hk hsrc hc hf
 unfold Oper.wp execOp
 simp only [hop, resolve, invoke, builtin, Sem.run_bind, Sem.run_pure, Result.andThen_ok, List.map_toArray, List.map_cons, List.map_nil, hd, hs, hrun]
 exact hK
theorem Bj (w : World) (n : Nat) (hn : n ≤ 1000000) : (Instr.makeSlice 29 (.int .i64 n) (.int .i64 n)).run Try.prog w = .ok (.slice (some ⟨w.heap.size, 0, none⟩) n n) (w.alloc (.cells (madeCells #[I 0] n) 22)) := by
 obtain ⟨i0, hi0, hz0, hz1, hz2⟩ := info_parts G7
 have := run_make (P := Try.prog) w 29 22 i0 (I 0) Try.underlying29 hi0 hz0 .i64 .i64 n n (by omega) (Int.le_refl _) (by rw [hz2]; omega) (by omega)
 rw [hz1] at this
 simpa [Value.cells] using this
theorem KW (n : Nat) : (madeCells #[I 0] n).toList = List.replicate n (I 0) := by
 unfold madeCells
 apply List.ext_getElem
 · simp
 · intro i h1 h2
   simp at h1 ⊢
   rw [Nat.mod_one]
   rfl
theorem Di (b n : Nat) (q : Int) (w : World) (hb : w.cell? ⟨b, 0, none⟩ = some (I q)) (h1 : 1 ≤ n) (h8 : n ≤ 8) :
 Calls Try.prog 130 #[.slice (some ⟨b, 0, none⟩) 1 1, I n] w fun e w' => ∃ A c, e = .returned (.slice A n c) ∧ Own w' w.heap.size (.slice A n c) (List.replicate n q) ∧ Below w.heap.size w w' := by
 have hm : PQ.bits_Mul.f 1 (n : Int) = some ((0 : Int), (n : Int)) := by
  rcases (show n = 1 ∨ n = 2 ∨ n = 3 ∨ n = 4 ∨ n = 5 ∨ n = 6 ∨ n = 7 ∨ n = 8 by omega) with h | h | h | h | h | h | h | h <;> subst h <;> decide +kernel
 have HM := Lib.hid (fun w => PQ.bits_Mul.calls 1 n 0 n w hm)
 have e0 : decide ((n : Int) < 0) = false := decide_eq_false (by omega)
 have e1 : decide ((n : Int) > 9223372036854775807) = false := decide_eq_false (by omega)
 have e2 : IntKind.u64.wrap (n : Int) = n := by simp [IntKind.wrap, IntKind.bits, IntKind.signed]; omega
 have e3 : IntKind.i64.wrap (n : Int) = n := by simp [IntKind.wrap, IntKind.bits, IntKind.signed]; omega
 have H1 := Lib.hid h1
 have H8 := Lib.hid h8
 have HB := Lib.hid hb
 clear hm h1 h8 hb
 go_enter Try.func130, Try.ntmps130
 go_wp2_with fail
 refine (HM.out _).mono ?_
 rintro e w2 ⟨rfl, hd⟩
 have D2 := Lib.hid hd.below
 clear hd
 have hz := Bj w2 n (by have := H8.out; omega)
 have R0 : Hid (Rep (w2.alloc (.cells (madeCells #[I 0] n) 22)) w2.heap.size n q 0) := Lib.hid ⟨_, Row.new _ _ _, by rw [KW]; simp⟩
 have B2 : Hid (Below w.heap.size w (w2.alloc (.cells (madeCells #[I 0] n) 22))) := Lib.hid (D2.out.alloc D2.out.size _)
 have S2 : Hid (w.heap.size ≤ w2.heap.size) := Lib.hid D2.out.size
 have hb2 : Hid ((w2.alloc (.cells (madeCells #[I 0] n) 22)).cell? ⟨b, 0, none⟩ = some (I q)) := Lib.hid ((B2.out.cell (p := ⟨b, 0, none⟩) (cell_lt HB.out)).trans HB.out)
 have hx0 : ∀ x, x < 1 → (w2.alloc (.cells (madeCells #[I 0] n) 22)).cell? ⟨b, x, none⟩ = some (I q) := by
  intro x hx
  have : x = 0 := by omega
  subst this
  exact hb2.out
 have hx1 : ∀ x, x < 1 → ((w2.alloc (.cells (madeCells #[I 0] n) 22)).cell? ⟨w2.heap.size, 0 + x, none⟩).isSome = true := by
  intro x hx
  have := H1.out
  exact R0.out.some (by omega) (by omega)
 have hx2 : 1 = Nat.min 1 n := (Nat.min_eq_left H1.out).symm
 have hcp := FT (w2.alloc (.cells (madeCells #[I 0] n) 22)) 3 w2.heap.size 0 n n b 1 1 1 q hx2 hx0 hx1 R0.out.free
 clear hx0 hx1 hx2
 have R1 := Lib.hid (R0.out.put (k := 1) (by have := H1.out; omega))
 have B3 := Lib.hid (dF (B := w2.heap.size) (List.replicate 1 (I q)) 0 _ B2.out S2.out)
 obtain ⟨w3, hw3⟩ : ∃ w3, (w2.alloc (.cells (madeCells #[I 0] n) 22)).setCells w2.heap.size 0 (List.replicate 1 (I q)) = w3 := ⟨_, rfl⟩
 rw [hw3] at hcp R1 B3
 clear hw3
 go_wp2_with fail
 clear hcp hz R0 B2 hb2 D2
 go_loopw [8] (fun jj wr => ∃ j : Nat, 1 ≤ j ∧ j ≤ n ∧ jj = .int .i64 j ∧ Hid (Rep wr w2.heap.size n q j) ∧ Hid (Below w.heap.size w wr)) (fun jj _ => n - (intOf jj).toNat)
 case atStart => exact ⟨1, by omega, H1.out, rfl, by simpa using R1, B3⟩
 case round =>
  clear R1 B3
  obtain ⟨j, h1, hj, rfl, R, HB⟩ := hrel
  by_cases hjn : j = n
  · subst hjn
    go_wp2
    go_ret
    exact ⟨_, _, rfl, R.out.own S2.out (by have := H8.out; omega), HB.out⟩
  have hlt : (j : Int) < n := by omega
  have hj0 : (0 : Int) ≤ j := by omega
  have hjle : (j : Int) ≤ n := by omega
  have hne : ¬ n = j := by omega
  obtain ⟨k, hk⟩ : ∃ k, Nat.min j (n - j) = k := ⟨_, rfl⟩
  have hk2 : k ≤ j ∧ k ≤ n - j ∧ 1 ≤ k := by subst hk; exact ⟨Nat.min_le_left _ _, Nat.min_le_right _ _, Nat.le_min.2 ⟨h1, by omega⟩⟩
  have STEP : Hid (1 ≤ j + k ∧ j + k ≤ n ∧ n - (j + k) < n - j) := Lib.hid (by omega)
  have hw64 : IntKind.i64.wrap ((j : Int) + k) = ((j + k : Nat) : Int) := by have := H8.out; simp [IntKind.wrap, IntKind.bits, IntKind.signed]; omega
  have HK := Lib.hid hk
  have WC := Lib.hid hk2
  have HJ := Lib.hid (show 1 ≤ j ∧ j < n by omega)
  clear hk hk2 h1 hj hjn
  have hq0 : ∀ x, x < k → wr.drew.cell? ⟨w2.heap.size, x, none⟩ = some (I q) := fun x hx => R.out.drew.cell (by have := WC.out; omega)
  have hq1 : ∀ x, x < k → (wr.drew.cell? ⟨w2.heap.size, j + x, none⟩).isSome = true := fun x hx => R.out.drew.some (by have := WC.out; have := HJ.out; omega) (by have := HJ.out; omega)
  have Q0 := Lib.hid hq0
  have Q1 := Lib.hid hq1
  clear hq0 hq1
  go_wp2_with fail
  go_region_held3 (fun w' => True)
   (first | trivial)
   (first
     | (refine J_ _ rfl (.tmp 41) (.tmp 44) rfl w2.heap.size j (n - j) (n - j) w2.heap.size j n k q rfl rfl HK.out.symm Q0.out Q1.out R.out.drew.free ?_
        have R2 := Lib.hid (R.out.drew.put (k := k) (by have := STEP.out; omega))
        have HB2 := Lib.hid (dF (B := w2.heap.size) (List.replicate k (I q)) j _ HB.out.drew S2.out)
        generalize wr.drew.setCells w2.heap.size j (List.replicate k (I q)) = w4 at R2 HB2 ⊢))
  all_goals
   go_wp2
   go_roundw
   case rel => exact ⟨j + k, STEP.out.1, STEP.out.2.1, by go_num, R2, HB2⟩
   case measure =>
    have h := STEP.out.2.2
    show n - ((j + k : Nat) : Int).toNat < n - ((j : Int)).toNat
    rw [Int.toNat_natCast, Int.toNat_natCast]
    exact h
def lU (n : Nat) : List Int := eF (List.replicate n 16777216)
theorem Lt (n : Nat) (w : World) (h1 : 1 ≤ n) (h8 : n ≤ 8) :
 Calls Try.prog 126 #[I n] w fun e w' => ∃ v, e = .returned (.tuple #[.agg #[I n, I n, v], I 0]) ∧ Own w' w.heap.size v (lU n) ∧ Below w.heap.size w w' := by
 have N : Hid (aS w [(31, #[I 0, I 0, .slice none 0 0]), (22, #[I 16777216])] ((w.alloc (.cells #[I 0, I 0, .slice none 0 0] 31)).alloc (.cells #[I 16777216] 22))) := Lib.hid (((aS.none w).push (by simp) _ _).push (by simp) _ _)
 have e1 : decide ((n : Int) < 1) = false := decide_eq_false (by omega)
 have e2 : decide ((n : Int) > 8) = false := decide_eq_false (by omega)
 have HR := Lib.hid (Di (w.heap.size + 1) n 16777216 _ (N.out.r1.cell 0) h1 h8)
 have hany : (List.replicate n (16777216 : Int)).any ng = false := by
  rw [List.any_eq_false]
  intro x hx
  rw [List.eq_of_mem_replicate hx]
  decide
 have hlen : (List.replicate n (16777216 : Int)).length = n := by simp
 have HD := Lib.hid (fun A c w' h => wV A c (List.replicate n 16777216) w' h (by rw [hlen]; exact h1) (by rw [hlen]; exact h8) hany)
 obtain ⟨L, hL⟩ : ∃ L, lU n = L := ⟨_, rfl⟩
 rw [hL]
 unfold lU at hL
 rw [hlen, hL] at HD
 clear h1 h8 hany hlen hL
 go_enter Try.func126, Try.ntmps126
 go_wp2_with fail
 refine HR.out.mono ?_
 rintro e w2 ⟨A, c, rfl, ho, hb⟩
 have N2 := Lib.hid (N.out.below hb)
 obtain ⟨A', c', he, _, hr⟩ := ho.reads
 injection he with e1 e2 e3
 subst e1 e3
 have HR2 := Lib.hid hr
 clear hb ho hr e2 HR
 go_wp2_with fail
 refine (HD.out _ _ _ HR2.out).mono ?_
 rintro e w3 ⟨v, rfl, ho, hb⟩
 obtain ⟨A3, c3, rfl, _, _⟩ := ho.reads
 have O := Lib.hid ho
 have N3 := Lib.hid (N2.out.below hb)
 have L2 := N2.out.r1.lt
 clear hb ho
 have x0 := N3.out.r0.cell
 have g0 := N3.out.r0.free
 have t0 := N3.out.r0.lt
 go_wp2
 refine bodyPost_ret (I_ rfl rfl (N3.out.r0.bG _ _ _)) rfl ⟨_, rfl, ?_, Below.bG N3.out.be (by omega) _ _ _⟩
 exact (O.out.bG (by omega) _ _ _).lower (by omega)
end Go.Proofs.Ytnijhjbcjeohhaa.KK

namespace Go.Proofs.Ytnijhjbcjeohhaa.PQ
open Go.RowKit Go.Proofs.af.aA Go.Proofs.af.aN Go.Proofs.af.aP Go.Proofs.Ytnijhjbcjeohhaa.KK
set_option linter.unusedVariables false
set_option linter.unusedSimpArgs false
theorem Nv {a b : Int} {n : Nat} (ha : 0 ≤ a) (hb : 0 ≤ b) (h : (n : Int) = a * b) : n = a.toNat * b.toNat := by
 obtain ⟨x, rfl⟩ := Int.eq_ofNat_of_zero_le ha
 obtain ⟨y, rfl⟩ := Int.eq_ofNat_of_zero_le hb
 simp only [Int.toNat_natCast]
 exact_mod_cast h
theorem toInt {a : Int} (ha : 0 ≤ a) : ((a.toNat : Nat) : Int) = a := by omega
def iU.f (bI : Int) (bQ : Int) (bP : List Int) : Option (Int × Int × List Int) := if 0 ≤ bI ∧ bI ≤ 8 ∧ 0 ≤ bQ ∧ bQ ≤ 8 ∧ (bP.length : Int) = bI * bQ then some (bQ, bI, xP bI.toNat bQ.toNat bP) else none
theorem iU.calls (bI : Int) (bQ : Int) (dV : Option Addr) (dU : Nat) (bP : List Int) (r1 : Int) (r2 : Int) (r3 : List Int) (w : World) (mG : Kd.C (Kd.int .i64) w dV bP.length bP) (oq : bP.length ≤ dU) (h : iU.f bI bQ bP = some (r1, r2, r3)) :
 Calls Try.prog 77 #[.agg #[.int .i64 bI, .int .i64 bQ, .slice dV bP.length dU]] w fun e w' => ∃ D_ : Value, e = .returned (.agg #[.int .i64 r1, .int .i64 r2, D_]) ∧ Kd.R (Kd.int .i64) 22 w' w.heap.size (fun _ => True) D_ r3 ∧ Below w.heap.size w w' := by
 unfold iU.f at h
 split at h
 · rename_i hs
   obtain ⟨s0, s1, s2, s3, s4⟩ := hs
   simp only [Option.some.injEq, Prod.mk.injEq] at h
   obtain ⟨rfl, rfl, rfl⟩ := h
   have := l_ bI.toNat bQ.toNat dV dU bP w (by omega) (by omega) (Nv s0 s2 s4) mG
   rw [toInt s0, toInt s2] at this
   exact this
 · cases h
def gX.f (bI : Int) (bQ : Int) (bP : List Int) (bU : Int) (bW : Int) (bK : List Int) : Option (Int × Int × List Int × Bool × Int) :=
 if bQ = bU then (if (0 ≤ bI ∧ bI ≤ 8 ∧ 0 ≤ bQ ∧ bQ ≤ 8 ∧ (bP.length : Int) = bI * bQ) ∧ (0 ≤ bU ∧ bU ≤ 8 ∧ 0 ≤ bW ∧ bW ≤ 8 ∧ (bK.length : Int) = bU * bW) then some (bI, bW, mulL bI.toNat bQ.toNat bW.toNat bP bK, qC bI.toNat bQ.toNat bW.toNat bP bK, 0) else none) else some (0, 0, [], false, 9)
theorem gX.calls (bI : Int) (bQ : Int) (dV : Option Addr) (dU : Nat) (bP : List Int) (bU : Int) (bW : Int) (fK : Option Addr) (fM : Nat) (bK : List Int) (r1 : Int) (r2 : Int) (r3 : List Int) (r4 : Bool) (r5 : Int) (w : World) (mG : Kd.C (Kd.int .i64) w dV bP.length bP) (oq : bP.length ≤ dU) (qi : Kd.C (Kd.int .i64) w fK bK.length bK) (qO : bK.length ≤ fM) (h : gX.f bI bQ bP bU bW bK = some (r1, r2, r3, r4, r5)) :
 Calls Try.prog 101 #[.agg #[.int .i64 bI, .int .i64 bQ, .slice dV bP.length dU], .agg #[.int .i64 bU, .int .i64 bW, .slice fK bK.length fM]] w fun e w' => ∃ D_ : Value, e = .returned (.tuple #[.agg #[.int .i64 r1, .int .i64 r2, D_], .bool r4, .int .i64 r5]) ∧ Kd.R (Kd.int .i64) 22 w' w.heap.size (fun _ => True) D_ r3 ∧ Below w.heap.size w w' := by
 unfold gX.f at h
 split at h
 · rename_i he
   subst he
   split at h
   · rename_i hs
     obtain ⟨⟨s0, s1, s2, s3, s4⟩, t0, t1, t2, t3, t4⟩ := hs
     simp only [Option.some.injEq, Prod.mk.injEq] at h
     obtain ⟨rfl, rfl, rfl, rfl, rfl⟩ := h
     have := vH bI.toNat bQ.toNat bW.toNat dV fK dU fM bP bK w (by omega) (by omega) (by omega) (Nv s0 s2 s4) (Nv t0 t2 t4) mG qi
     rw [toInt s0, toInt s2, toInt t2] at this
     exact this
   · cases h
 · rename_i he
   simp only [Option.some.injEq, Prod.mk.injEq] at h
   obtain ⟨rfl, rfl, rfl, rfl, rfl⟩ := h
   refine (EL bI bQ bU bW dV fK dU fM bP bK w he).mono ?_
   rintro e w' ⟨rfl, hb⟩
   exact ⟨_, rfl, Own.nil _ _, hb⟩
def nY.f (bI : Int) (bQ : Int) (bP : List Int) : Option (Int × Int × List Int × Bool × Int) := if bI = bQ ∧ 0 ≤ bI ∧ bI ≤ 8 ∧ 0 ≤ bQ ∧ bQ ≤ 8 ∧ (bP.length : Int) = bI * bQ then some (bI, bQ, BG bI.toNat bP, jf kS bI.toNat bI.toNat bP (xP bI.toNat bI.toNat bP), 0) else none
theorem nY.calls (bI : Int) (bQ : Int) (dV : Option Addr) (dU : Nat) (bP : List Int) (r1 : Int) (r2 : Int) (r3 : List Int) (r4 : Bool) (r5 : Int) (w : World) (mG : Kd.C (Kd.int .i64) w dV bP.length bP) (oq : bP.length ≤ dU) (h : nY.f bI bQ bP = some (r1, r2, r3, r4, r5)) :
 Calls Try.prog 116 #[.agg #[.int .i64 bI, .int .i64 bQ, .slice dV bP.length dU]] w fun e w' => ∃ D_ : Value, e = .returned (.tuple #[.agg #[.int .i64 r1, .int .i64 r2, D_], .bool r4, .int .i64 r5]) ∧ Kd.R (Kd.int .i64) 22 w' w.heap.size (fun _ => True) D_ r3 ∧ Below w.heap.size w w' := by
 unfold nY.f at h
 split at h
 · rename_i hs
   obtain ⟨rfl, s0, s1, s2, s3, s4⟩ := hs
   simp only [Option.some.injEq, Prod.mk.injEq] at h
   obtain ⟨rfl, rfl, rfl, rfl, rfl⟩ := h
   have := LD bI.toNat dV dU bP w (by omega) (Nv s0 s2 s4) mG oq
   rw [toInt s0] at this
   exact this
 · cases h
end Go.Proofs.Ytnijhjbcjeohhaa.PQ

namespace Go.Proofs.Ytnijhjbcjeohhaa.PR
open Go.RowKit Go.Proofs.Ytnijhjbcjeohhaa.PQ Go.Proofs.af.aA Go.Proofs.af.aN Go.Proofs.af.aP
attribute [local go_sem] gz gu jc iZ fD fC gy gq
set_option linter.unusedVariables false
set_option linter.unusedSimpArgs false
def Om : Option Int → Value
 | none => .nilIface
 | some c => .iface 0 (.int .i64 c)
theorem aI : Om none = .nilIface := rfl
theorem aH (c : Int) : Om (some c) = .iface 0 (.int .i64 c) := rfl
end Go.Proofs.Ytnijhjbcjeohhaa.PR

namespace Go.Proofs.Ytnijhjbcjeohhaa.PR
open Go.RowKit Go.Proofs.Ytnijhjbcjeohhaa.PQ Go.Proofs.af.aA Go.Proofs.af.aN Go.Proofs.af.aP
attribute [local go_sem] gz gu jc iZ fD fC gy gq
set_option linter.unusedVariables false
set_option linter.unusedSimpArgs false
def ay (w0 W : World) (g : Nat) (f0 : Bool) : Prop := W.heap[g]? = some (.cells #[.bool f0] 158 (0, 0)) ∧ w0.heap.size ≤ g
theorem ay.grown {w0 W : World} {g : Nat} {f0 : Bool} {W1 : World} {row : Option Nat} (h : ay w0 W g f0) (hw : W.grownBy W1 row) (hne : some g ≠ row) : ay w0 W1 g f0 := by
 obtain ⟨hb, hg⟩ := h
 exact ⟨LY hb hw hne, hg⟩
theorem ay.below {w0 W : World} {g : Nat} {f0 : Bool} {W1 : World} (h : ay w0 W g f0) (hw : Below W.heap.size W W1) : ay w0 W1 g f0 := h.grown (b_ hw none) (by simp)
theorem ay.alloc {w0 W : World} {g : Nat} {f0 : Bool} (h : ay w0 W g f0) (o : Obj) : ay w0 (W.alloc o) g f0 := h.below (ak (Below.refl _ _) o)
theorem ay.drewN {w0 W : World} {g : Nat} {f0 : Bool} (h : ay w0 W g f0) (m : Nat) : ay w0 (W.drewN m) g f0 := h
theorem ay.drew {w0 W : World} {g : Nat} {f0 : Bool} (h : ay w0 W g f0) : ay w0 W.drew g f0 := h
theorem ay.apart {w0 W : World} {g : Nat} {f0 : Bool} {α : Type} {d : Kd α} {e : Nat} {base : Nat} {ok : Nat → Prop} {v : Value} {xs : List α} (h : ay w0 W g f0) (ho : d.R e W base ok v xs) (ht : ∀ q, q ∈ e :: d.E → q ≠ 158) : d.R e W base (fun k => ok k ∧ k ≠ g) v xs := by
 obtain ⟨hb, hg⟩ := h
 exact Kd.tH ho hb ht
theorem ay.lt {w0 W : World} {g : Nat} {f0 : Bool} (h : ay w0 W g f0) : g < W.heap.size := by
 obtain ⟨hb, hg⟩ := h
 exact d_ hb
theorem ay.ge {w0 W : World} {g : Nat} {f0 : Bool} (h : ay w0 W g f0) : w0.heap.size ≤ g := by
 obtain ⟨hb, hg⟩ := h
 exact hg
theorem ay.far {w0 W : World} {g : Nat} {f0 : Bool} {p : Addr} (h : ay w0 W g f0) (hne : g ≠ p.block) (u : Value) : ay w0 (W.setCell p u) g f0 := by
 obtain ⟨hb, hg⟩ := h
 exact ⟨jW hb hne u, hg⟩
theorem zy {W : World} {g : Nat} {f0 : Bool} (h : W.heap[g]? = some (.cells #[.bool f0] 158 (0, 0))) : W.cell? ⟨g, 0, none⟩ = some (.bool f0) := (aC h 0).trans rfl
theorem ay.gm {w0 W : World} {g : Nat} {f0 : Bool} (h : ay w0 W g f0) (x : Bool) : ay w0 (W.setCell ⟨g, 0, none⟩ (.bool x)) g x := by
 obtain ⟨hb, hg⟩ := h
 exact ⟨by simpa using Jw hb 0 (.bool x), hg⟩
def bY.f (lN : Bool) (bU : Int) (bW : Int) (bK : List Int) (a2 : Bool) (a3 : Int) : Option (Int × Int × List Int × Bool) := if lN = true then (some (bU, bW, bK, true)) else (some (bU, bW, bK, a2))
theorem bY.calls (g : Nat) (lN : Bool) (bU : Int) (bW : Int) (qp : Nat → Prop) (GI : Value) (bK : List Int) (a2 : Bool) (a3 : Int) (r1 : Int) (r2 : Int) (r3 : List Int) (r4 : Bool) (w0 w : World) (hI : ay w0 w g lN) (hB : Below w0.heap.size w0 w) (X_ : Kd.R (Kd.int .i64) 22 w w0.heap.size qp GI bK) (h : bY.f lN bU bW bK a2 a3 = some (r1, r2, r3, r4)) :
 Calls Try.prog 100 #[.pointer (some ⟨g, 0, none⟩), .agg #[.int .i64 bU, .int .i64 bW, GI], .bool a2, .int .i64 a3] w fun e w' => ∃ D_ : Value, e = .returned (.agg #[.int .i64 r1, .int .i64 r2, D_]) ∧ Kd.R (Kd.int .i64) 22 w' w0.heap.size (fun k_ => (qp k_ ∨ w.heap.size ≤ k_)) D_ r3 ∧ ay w0 w' g r4 ∧ Below w0.heap.size w0 w' ∧ Kept w w' (fun k_ => (qp k_) ∨ k_ = g) := by
 have NF := Try.underlying31
 have mZ := aj.mk (show Kd.R (Kd.int .i64) 22 w w0.heap.size (fun k_ => (qp k_ ∨ w.heap.size ≤ k_)) GI bK from Kd.jO X_ (fun k_ hk => (.inl hk)))
 have HI0 := aj.mk hI
 have HL := aj.mk hB.size
 clear hI
 have HK := aj.mk (Kept.refl w (fun k_ => (qp k_) ∨ k_ = g))
 have HW0 := aj.mk hB.size
 have HB := aj.mk hB
 clear hB
 have H : (if lN = true then (some (bU, bW, bK, true)) else (some (bU, bW, bK, a2))) = some (r1, r2, r3, r4) := h
 clear h
 by_cases c5 : lN = true
 · subst c5
   rw [if_pos rfl] at H
   simp only [Option.some.injEq, Prod.mk.injEq] at H
   obtain ⟨rfl, rfl, rfl, rfl⟩ := H
   obtain ⟨WR, VM, eo6⟩ := Kd.jg mZ.out
   subst eo6
   go_enter Try.func100, Try.ntmps100
   go_wp2_with (first | ((with_reducible refine dW (N := 5) rfl ?_); refine dO ?hg (N := 5) ?hd (cs := #[.int .i64 bU, .int .i64 bW, .slice WR bK.length VM]) (t := 31) ?hr ?_; (case hd => rfl); (case hg => rfl); (case hr => first | (go_simp; done) | (go_simp; rfl)); intro iP hg w7 hbox hb; have bu := aj.mk (Kd.nJ (by (with_reducible repeat (first | apply Kd.fA | apply Kd.eY | apply Kd.fU)); exact mZ.out) hb); have fH := aj.mk (ay.below (by repeat (first | (with_reducible first | exact HI0.out | apply ay.alloc | apply ay.drewN | apply ay.drew | apply ay.gm) | exact HI0.out)) hb); have fG := aj.mk (Kept.below (S := (fun k_ => (qp k_) ∨ k_ = g)) (by repeat (first | (with_reducible first | exact HK.out | apply Kept.alloc | apply Kept.drewN | apply Kept.drew | refine Kept.setCell ?_ (.inl (.inr rfl)) _) | exact HK.out)) hb); have iG := aj.mk (aQ (by repeat (first | (with_reducible first | exact HB.out | apply ak | apply ah | apply au | refine aB ?_ (ay.ge HI0.out)) | exact HB.out)) hb); have kQ := aj.mk (hbox); have kZ := aj.mk ((by rw [hg]; exact (by first | exact HK.out.1 | exact (show Kept w _ (fun k_ => (qp k_) ∨ k_ = g) from by repeat (first | (with_reducible first | exact HK.out | apply Kept.alloc | apply Kept.drewN | apply Kept.drew | refine Kept.setCell ?_ (.inl (.inr rfl)) _) | exact HK.out)).1) : w.heap.size ≤ iP)); have mF := aj.mk ((by rw [hg]; exact (bD (by repeat (first | (with_reducible first | exact HB.out | apply ak | apply ah | apply au | refine aB ?_ (ay.ge HI0.out)) | exact HB.out))) : w0.heap.size ≤ iP)); have uj := aj.mk ((by rw [hg]; exact Nat.ne_of_lt (ay.lt (show ay w0 _ g true from by repeat (first | (with_reducible first | exact HI0.out | apply ay.alloc | apply ay.drewN | apply ay.drew | apply ay.gm) | exact HI0.out))) : g ≠ iP)); have xu := aj.mk ((by rw [hg]; exact Nat.ne_of_gt (ay.lt (show ay w0 _ g true from by repeat (first | (with_reducible first | exact HI0.out | apply ay.alloc | apply ay.drewN | apply ay.drew | apply ay.gm) | exact HI0.out))) : iP ≠ g)); clear mZ; clear HI0; clear HK; clear HB; have mZ := bu; have HI0 := fH; have HK := fG; have HB := iG; have jE := kQ; have zU := kZ; have zY := mF; have kY := uj; have DZ := xu; clear bu fH fG iG kQ kZ mF uj xu; clear hb hbox hg) | ((with_reducible refine dW (N := 8) rfl ?_); refine dO ?hg (N := 8) ?hd (cs := #[.int .i64 0, .int .i64 0, .slice none 0 0]) (t := 31) ?hr ?_; (case hd => rfl); (case hg => rfl); (case hr => first | (go_simp; done) | (go_simp; rfl)); intro iw hg w8 hbox hb; have bu := aj.mk (Kd.nJ (by (with_reducible repeat (first | apply Kd.fA | apply Kd.eY | apply Kd.fU)); exact mZ.out) hb); have fH := aj.mk (ay.below (by repeat (first | (with_reducible first | exact HI0.out | apply ay.alloc | apply ay.drewN | apply ay.drew | apply ay.gm | refine ay.far ?_ kY.out _) | exact HI0.out)) hb); have fG := aj.mk (bM (g := iP) (o := .cells #[.int .i64 bU, .int .i64 bW, .slice WR bK.length VM] 31 (0, 0)) (by (with_reducible repeat (first | refine aF ?_ _ | refine aK ?_ | refine aG ?_ _)); exact jE.out) hb); have iG := aj.mk (Kept.below (S := (fun k_ => (qp k_) ∨ k_ = g)) (by repeat (first | (with_reducible first | exact HK.out | apply Kept.alloc | apply Kept.drewN | apply Kept.drew | refine Kept.setCell ?_ (.inl (.inr rfl)) _ | refine Kept.setCell ?_ (.inr zU.out) _) | exact HK.out)) hb); have kQ := aj.mk (aQ (by repeat (first | (with_reducible first | exact HB.out | apply ak | apply ah | apply au | refine aB ?_ (ay.ge HI0.out) | refine aB ?_ zY.out) | exact HB.out)) hb); have kZ := aj.mk (hbox); have mF := aj.mk ((by rw [hg]; exact (by first | exact HK.out.1 | exact (show Kept w _ (fun k_ => (qp k_) ∨ k_ = g) from by repeat (first | (with_reducible first | exact HK.out | apply Kept.alloc | apply Kept.drewN | apply Kept.drew | refine Kept.setCell ?_ (.inl (.inr rfl)) _ | refine Kept.setCell ?_ (.inr zU.out) _) | exact HK.out)).1) : w.heap.size ≤ iw)); have uj := aj.mk ((by rw [hg]; exact (bD (by repeat (first | (with_reducible first | exact HB.out | apply ak | apply ah | apply au | refine aB ?_ (ay.ge HI0.out) | refine aB ?_ zY.out) | exact HB.out))) : w0.heap.size ≤ iw)); have xu := aj.mk ((by rw [hg]; exact Nat.ne_of_lt (d_ (g := iP) (o := .cells #[.int .i64 bU, .int .i64 bW, .slice WR bK.length VM] 31 (0, 0)) (by (with_reducible repeat (first | refine aF ?_ _ | refine aK ?_ | refine aG ?_ _)); exact jE.out)) : iP ≠ iw)); have Je := aj.mk ((by rw [hg]; exact Nat.ne_of_gt (d_ (g := iP) (o := .cells #[.int .i64 bU, .int .i64 bW, .slice WR bK.length VM] 31 (0, 0)) (by (with_reducible repeat (first | refine aF ?_ _ | refine aK ?_ | refine aG ?_ _)); exact jE.out)) : iw ≠ iP)); have vG := aj.mk ((by rw [hg]; exact Nat.ne_of_lt (ay.lt (show ay w0 _ g true from by repeat (first | (with_reducible first | exact HI0.out | apply ay.alloc | apply ay.drewN | apply ay.drew | apply ay.gm | refine ay.far ?_ kY.out _) | exact HI0.out))) : g ≠ iw)); have EJ := aj.mk ((by rw [hg]; exact Nat.ne_of_gt (ay.lt (show ay w0 _ g true from by repeat (first | (with_reducible first | exact HI0.out | apply ay.alloc | apply ay.drewN | apply ay.drew | apply ay.gm | refine ay.far ?_ kY.out _) | exact HI0.out))) : iw ≠ g)); clear mZ; clear HI0; clear jE; clear HK; clear HB; have mZ := bu; have HI0 := fH; have jE := fG; have HK := iG; have HB := kQ; have mV := kZ; have PL := mF; have PN := uj; have xk := xu; have xh := Je; have wo := vG; have v_ := EJ; clear bu fH fG iG kQ kZ mF uj xu Je vG EJ; clear hb hbox hg; obtain ⟨WG, acw⟩ := HI0.out; have NY := zy WG; have NK := aU WG 0; clear WG acw; have Yg := xk.out; have Yd := xh.out; have Yf := DZ.out; have Yc := kY.out; have Jp : w8.cell? ⟨iP, 0, none⟩ = some (.int .i64 bU) := (aC jE.out 0).trans rfl; have Jo : w8.cell? ⟨iP, 1, none⟩ = some (.int .i64 bW) := (aC jE.out 1).trans rfl; have Jn : w8.cell? ⟨iP, 2, none⟩ = some (.slice WR bK.length VM) := (aC jE.out 2).trans rfl; have Jm := aU jE.out 0; have Jl := aU jE.out 1; have Jk := aU jE.out 2; have aeN := v_.out; have aeI := wo.out; have abd : w8.cell? ⟨iw, 0, none⟩ = some (.int .i64 0) := (aC mV.out 0).trans rfl; have abb : w8.cell? ⟨iw, 1, none⟩ = some (.int .i64 0) := (aC mV.out 1).trans rfl; have aba : w8.cell? ⟨iw, 2, none⟩ = some (.slice none 0 0) := (aC mV.out 2).trans rfl; have aaX := aU mV.out 0; have aaW := aU mV.out 1; have aaV := aU mV.out 2))
   refine bodyPost_ret (results_cell_row rfl _ _ iw 31 #[.int .i64 bU, .int .i64 bW, .slice WR bK.length VM] (0, 0) _ rfl (by (with_reducible repeat (first | refine aF ?_ _ | refine aK ?_ | refine aG ?_ _)); refine gJ (cs := #[.int .i64 bU, .int .i64 bW, .slice none 0 0]) ?_ 2 _ rfl; (with_reducible repeat (first | refine aF ?_ _ | refine aK ?_ | refine aG ?_ _)); refine gJ (cs := #[.int .i64 bU, .int .i64 0, .slice none 0 0]) ?_ 1 _ rfl; (with_reducible repeat (first | refine aF ?_ _ | refine aK ?_ | refine aG ?_ _)); refine gJ (cs := #[.int .i64 0, .int .i64 0, .slice none 0 0]) ?_ 0 _ rfl; (with_reducible repeat (first | refine aF ?_ _ | refine aK ?_ | refine aG ?_ _)); refine jW ?_ v_.out _; (with_reducible repeat (first | refine aF ?_ _ | refine aK ?_ | refine aG ?_ _)); exact mV.out) Try.underlying31 rfl (by kernel_rfl)) rfl ?_
   exact ⟨_, by first | rfl | (simp [aI, aH] <;> rfl) | (simp [*, aI, aH] <;> rfl), by (with_reducible repeat (first | apply Kd.fA | apply Kd.eY | apply Kd.fU)); exact Kd.jO (Kd.mP (p := ⟨iw, 2, none⟩) (Kd.mP (p := ⟨iw, 1, none⟩) (Kd.mP (p := ⟨iw, 0, none⟩) (Kd.mP (p := ⟨g, 0, none⟩) (Kd.tH (ay.apart HI0.out mZ.out (by decide)) mV.out (by decide)) (fun _ hk => hk.1.2) (.bool true)) (fun _ hk => hk.2) (.int .i64 bU)) (fun _ hk => hk.2) (.int .i64 bW)) (fun _ hk => hk.2) (.slice WR bK.length VM)) (fun _ hk => hk.1.1), by repeat (first | (with_reducible first | exact HI0.out | apply ay.alloc | apply ay.drewN | apply ay.drew | apply ay.gm | refine ay.far ?_ kY.out _ | refine ay.far ?_ wo.out _) | exact HI0.out), by repeat (first | (with_reducible first | exact HB.out | apply ak | apply ah | apply au | refine aB ?_ (ay.ge HI0.out) | refine aB ?_ zY.out | refine aB ?_ PN.out) | exact HB.out), by repeat (first | (with_reducible first | exact HK.out | apply Kept.alloc | apply Kept.drewN | apply Kept.drew | refine Kept.setCell ?_ (.inl (.inr rfl)) _ | refine Kept.setCell ?_ (.inr zU.out) _ | refine Kept.setCell ?_ (.inr PL.out) _) | exact HK.out)⟩
 · replace c5 := Bool.eq_false_iff.mpr c5
   subst c5
   have H1 : (some (bU, bW, bK, a2)) = some (r1, r2, r3, r4) := by rw [if_neg (show ¬ (false = true) by decide)] at H; exact H
   clear H
   have H := H1
   clear H1
   simp only [Option.some.injEq, Prod.mk.injEq] at H
   obtain ⟨rfl, rfl, rfl, rfl⟩ := H
   obtain ⟨IU, Ii, acN⟩ := Kd.jg mZ.out
   subst acN
   go_enter Try.func100, Try.ntmps100
   go_wp2_with (first | ((with_reducible refine dW (N := 5) rfl ?_); refine dO ?hg (N := 5) ?hd (cs := #[.int .i64 bU, .int .i64 bW, .slice IU bK.length Ii]) (t := 31) ?hr ?_; (case hd => rfl); (case hg => rfl); (case hr => first | (go_simp; done) | (go_simp; rfl)); intro iP hg w16 hbox hb; have bu := aj.mk (Kd.nJ (by (with_reducible repeat (first | apply Kd.fA | apply Kd.eY | apply Kd.fU)); exact mZ.out) hb); have fH := aj.mk (ay.below (by repeat (first | (with_reducible first | exact HI0.out | apply ay.alloc | apply ay.drewN | apply ay.drew | apply ay.gm) | exact HI0.out)) hb); have fG := aj.mk (Kept.below (S := (fun k_ => (qp k_) ∨ k_ = g)) (by repeat (first | (with_reducible first | exact HK.out | apply Kept.alloc | apply Kept.drewN | apply Kept.drew | refine Kept.setCell ?_ (.inl (.inr rfl)) _) | exact HK.out)) hb); have iG := aj.mk (aQ (by repeat (first | (with_reducible first | exact HB.out | apply ak | apply ah | apply au | refine aB ?_ (ay.ge HI0.out)) | exact HB.out)) hb); have kQ := aj.mk (hbox); have kZ := aj.mk ((by rw [hg]; exact (by first | exact HK.out.1 | exact (show Kept w _ (fun k_ => (qp k_) ∨ k_ = g) from by repeat (first | (with_reducible first | exact HK.out | apply Kept.alloc | apply Kept.drewN | apply Kept.drew | refine Kept.setCell ?_ (.inl (.inr rfl)) _) | exact HK.out)).1) : w.heap.size ≤ iP)); have mF := aj.mk ((by rw [hg]; exact (bD (by repeat (first | (with_reducible first | exact HB.out | apply ak | apply ah | apply au | refine aB ?_ (ay.ge HI0.out)) | exact HB.out))) : w0.heap.size ≤ iP)); have uj := aj.mk ((by rw [hg]; exact Nat.ne_of_lt (ay.lt (show ay w0 _ g false from by repeat (first | (with_reducible first | exact HI0.out | apply ay.alloc | apply ay.drewN | apply ay.drew | apply ay.gm) | exact HI0.out))) : g ≠ iP)); have xu := aj.mk ((by rw [hg]; exact Nat.ne_of_gt (ay.lt (show ay w0 _ g false from by repeat (first | (with_reducible first | exact HI0.out | apply ay.alloc | apply ay.drewN | apply ay.drew | apply ay.gm) | exact HI0.out))) : iP ≠ g)); clear mZ; clear HI0; clear HK; clear HB; have mZ := bu; have HI0 := fH; have HK := fG; have HB := iG; have jE := kQ; have zU := kZ; have zY := mF; have kY := uj; have DZ := xu; clear bu fH fG iG kQ kZ mF uj xu; clear hb hbox hg) | ((with_reducible refine dW (N := 8) rfl ?_); refine dO ?hg (N := 8) ?hd (cs := #[.int .i64 0, .int .i64 0, .slice none 0 0]) (t := 31) ?hr ?_; (case hd => rfl); (case hg => rfl); (case hr => first | (go_simp; done) | (go_simp; rfl)); intro iw hg WY hbox hb; have bu := aj.mk (Kd.nJ (by (with_reducible repeat (first | apply Kd.fA | apply Kd.eY | apply Kd.fU)); exact mZ.out) hb); have fH := aj.mk (ay.below (by repeat (first | (with_reducible first | exact HI0.out | apply ay.alloc | apply ay.drewN | apply ay.drew | apply ay.gm | refine ay.far ?_ kY.out _) | exact HI0.out)) hb); have fG := aj.mk (bM (g := iP) (o := .cells #[.int .i64 bU, .int .i64 bW, .slice IU bK.length Ii] 31 (0, 0)) (by (with_reducible repeat (first | refine aF ?_ _ | refine aK ?_ | refine aG ?_ _)); exact jE.out) hb); have iG := aj.mk (Kept.below (S := (fun k_ => (qp k_) ∨ k_ = g)) (by repeat (first | (with_reducible first | exact HK.out | apply Kept.alloc | apply Kept.drewN | apply Kept.drew | refine Kept.setCell ?_ (.inl (.inr rfl)) _ | refine Kept.setCell ?_ (.inr zU.out) _) | exact HK.out)) hb); have kQ := aj.mk (aQ (by repeat (first | (with_reducible first | exact HB.out | apply ak | apply ah | apply au | refine aB ?_ (ay.ge HI0.out) | refine aB ?_ zY.out) | exact HB.out)) hb); have kZ := aj.mk (hbox); have mF := aj.mk ((by rw [hg]; exact (by first | exact HK.out.1 | exact (show Kept w _ (fun k_ => (qp k_) ∨ k_ = g) from by repeat (first | (with_reducible first | exact HK.out | apply Kept.alloc | apply Kept.drewN | apply Kept.drew | refine Kept.setCell ?_ (.inl (.inr rfl)) _ | refine Kept.setCell ?_ (.inr zU.out) _) | exact HK.out)).1) : w.heap.size ≤ iw)); have uj := aj.mk ((by rw [hg]; exact (bD (by repeat (first | (with_reducible first | exact HB.out | apply ak | apply ah | apply au | refine aB ?_ (ay.ge HI0.out) | refine aB ?_ zY.out) | exact HB.out))) : w0.heap.size ≤ iw)); have xu := aj.mk ((by rw [hg]; exact Nat.ne_of_lt (d_ (g := iP) (o := .cells #[.int .i64 bU, .int .i64 bW, .slice IU bK.length Ii] 31 (0, 0)) (by (with_reducible repeat (first | refine aF ?_ _ | refine aK ?_ | refine aG ?_ _)); exact jE.out)) : iP ≠ iw)); have Je := aj.mk ((by rw [hg]; exact Nat.ne_of_gt (d_ (g := iP) (o := .cells #[.int .i64 bU, .int .i64 bW, .slice IU bK.length Ii] 31 (0, 0)) (by (with_reducible repeat (first | refine aF ?_ _ | refine aK ?_ | refine aG ?_ _)); exact jE.out)) : iw ≠ iP)); have vG := aj.mk ((by rw [hg]; exact Nat.ne_of_lt (ay.lt (show ay w0 _ g false from by repeat (first | (with_reducible first | exact HI0.out | apply ay.alloc | apply ay.drewN | apply ay.drew | apply ay.gm | refine ay.far ?_ kY.out _) | exact HI0.out))) : g ≠ iw)); have EJ := aj.mk ((by rw [hg]; exact Nat.ne_of_gt (ay.lt (show ay w0 _ g false from by repeat (first | (with_reducible first | exact HI0.out | apply ay.alloc | apply ay.drewN | apply ay.drew | apply ay.gm | refine ay.far ?_ kY.out _) | exact HI0.out))) : iw ≠ g)); clear mZ; clear HI0; clear jE; clear HK; clear HB; have mZ := bu; have HI0 := fH; have jE := fG; have HK := iG; have HB := kQ; have mV := kZ; have PL := mF; have PN := uj; have xk := xu; have xh := Je; have wo := vG; have v_ := EJ; clear bu fH fG iG kQ kZ mF uj xu Je vG EJ; clear hb hbox hg; obtain ⟨PK, Yk⟩ := HI0.out; have aa_ := zy PK; have aaU := aU PK 0; clear PK Yk; have aeM := xk.out; have aeH := xh.out; have aeL := DZ.out; have aeG := kY.out; have aa9 : WY.cell? ⟨iP, 0, none⟩ = some (.int .i64 bU) := (aC jE.out 0).trans rfl; have aa8 : WY.cell? ⟨iP, 1, none⟩ = some (.int .i64 bW) := (aC jE.out 1).trans rfl; have aa7 : WY.cell? ⟨iP, 2, none⟩ = some (.slice IU bK.length Ii) := (aC jE.out 2).trans rfl; have aaT := aU jE.out 0; have aaS := aU jE.out 1; have aaR := aU jE.out 2; have Ye := v_.out; have Yb := wo.out; have aa6 : WY.cell? ⟨iw, 0, none⟩ = some (.int .i64 0) := (aC mV.out 0).trans rfl; have aa5 : WY.cell? ⟨iw, 1, none⟩ = some (.int .i64 0) := (aC mV.out 1).trans rfl; have aa4 : WY.cell? ⟨iw, 2, none⟩ = some (.slice none 0 0) := (aC mV.out 2).trans rfl; have aaQ := aU mV.out 0; have aaP := aU mV.out 1; have aaO := aU mV.out 2))
   refine bodyPost_ret (results_cell_row rfl _ _ iw 31 #[.int .i64 bU, .int .i64 bW, .slice IU bK.length Ii] (0, 0) _ rfl (by (with_reducible repeat (first | refine aF ?_ _ | refine aK ?_ | refine aG ?_ _)); refine gJ (cs := #[.int .i64 bU, .int .i64 bW, .slice none 0 0]) ?_ 2 _ rfl; (with_reducible repeat (first | refine aF ?_ _ | refine aK ?_ | refine aG ?_ _)); refine gJ (cs := #[.int .i64 bU, .int .i64 0, .slice none 0 0]) ?_ 1 _ rfl; (with_reducible repeat (first | refine aF ?_ _ | refine aK ?_ | refine aG ?_ _)); refine gJ (cs := #[.int .i64 0, .int .i64 0, .slice none 0 0]) ?_ 0 _ rfl; (with_reducible repeat (first | refine aF ?_ _ | refine aK ?_ | refine aG ?_ _)); refine jW ?_ v_.out _; (with_reducible repeat (first | refine aF ?_ _ | refine aK ?_ | refine aG ?_ _)); exact mV.out) Try.underlying31 rfl (by kernel_rfl)) rfl ?_
   exact ⟨_, by first | rfl | (simp [aI, aH] <;> rfl) | (simp [*, aI, aH] <;> rfl), by (with_reducible repeat (first | apply Kd.fA | apply Kd.eY | apply Kd.fU)); exact Kd.jO (Kd.mP (p := ⟨iw, 2, none⟩) (Kd.mP (p := ⟨iw, 1, none⟩) (Kd.mP (p := ⟨iw, 0, none⟩) (Kd.mP (p := ⟨g, 0, none⟩) (Kd.tH (ay.apart HI0.out mZ.out (by decide)) mV.out (by decide)) (fun _ hk => hk.1.2) (.bool a2)) (fun _ hk => hk.2) (.int .i64 bU)) (fun _ hk => hk.2) (.int .i64 bW)) (fun _ hk => hk.2) (.slice IU bK.length Ii)) (fun _ hk => hk.1.1), by repeat (first | (with_reducible first | exact HI0.out | apply ay.alloc | apply ay.drewN | apply ay.drew | apply ay.gm | refine ay.far ?_ kY.out _ | refine ay.far ?_ wo.out _) | exact HI0.out), by repeat (first | (with_reducible first | exact HB.out | apply ak | apply ah | apply au | refine aB ?_ (ay.ge HI0.out) | refine aB ?_ zY.out | refine aB ?_ PN.out) | exact HB.out), by repeat (first | (with_reducible first | exact HK.out | apply Kept.alloc | apply Kept.drewN | apply Kept.drew | refine Kept.setCell ?_ (.inl (.inr rfl)) _ | refine Kept.setCell ?_ (.inr zU.out) _ | refine Kept.setCell ?_ (.inr PL.out) _) | exact HK.out)⟩
def aZ.f (lN : Bool) (bU : Int) (bW : Int) (bK : List Int) (kK : Int) (kJ : Int) (jG : List Int) : Option (Int × Int × List Int × Bool) := (gX.f bU bW bK kK kJ jG).bind fun rZ => ((bY.f lN rZ.1 rZ.2.1 rZ.2.2.1 rZ.2.2.2.1 rZ.2.2.2.2).bind fun pq => ((iU.f bU bW bK).bind fun oG => ((gX.f pq.1 pq.2.1 pq.2.2.1 oG.1 oG.2.1 oG.2.2).bind fun gG => ((bY.f pq.2.2.2 gG.1 gG.2.1 gG.2.2.1 gG.2.2.2.1 gG.2.2.2.2).bind fun gB => (some (gB.1, gB.2.1, gB.2.2.1, gB.2.2.2))))))
def aZ.T1 : Bool × List (List Nat × List Nat) := (true, [([], []), ([], []), ([], []), ([], []), ([2, 3], [2, 3]), ([4], [4]), ([4], [4]), ([4], [4]), ([1, 5, 6, 7, 4], [1, 5, 6, 7]), ([], []), ([9, 8], [9]), ([8, 10, 10], [8, 10]), ([11], [11]), ([11], [11]), ([11], [11]), ([0, 12, 13, 14, 11], [0, 12, 13, 14]), ([15, 15, 0, 1, 2, 3, 4, 5, 6, 7, 8, 9, 10, 11, 12, 13, 14, 15], [15])])
def aZ.B1 : List Nat := [0, 0, 0, 0, 12, 28, 28, 28, 254, 0, 1022, 2046, 4094, 4094, 4094, 32767, 65535]
theorem aZ.Qa : nU .any (opsOf Try.f103 1) = aZ.T1 := by kernel_rfl
theorem aZ.Jy : qA aZ.T1.2 aZ.B1 = true := by kernel_rfl
theorem aZ.calls (g : Nat) (lN : Bool) (bU : Int) (bW : Int) (fK : Option Addr) (fM : Nat) (bK : List Int) (kK : Int) (kJ : Int) (pV : Option Addr) (qI : Nat) (jG : List Int) (r1 : Int) (r2 : Int) (r3 : List Int) (r4 : Bool) (w0 w : World) (hI : ay w0 w g lN) (hB : Below w0.heap.size w0 w) (qi : Kd.C (Kd.int .i64) w fK bK.length bK) (qO : bK.length ≤ fM) (Fb : ∀ ad, fK = some ad → 0 < bK.length → ad.block ≠ g) (EU : Kd.C (Kd.int .i64) w pV jG.length jG) (Fg : jG.length ≤ qI) (Fa : ∀ ad, pV = some ad → 0 < jG.length → ad.block ≠ g) (h : aZ.f lN bU bW bK kK kJ jG = some (r1, r2, r3, r4)) :
 Calls Try.prog 103 #[.pointer (some ⟨g, 0, none⟩), .agg #[.int .i64 bU, .int .i64 bW, .slice fK bK.length fM], .agg #[.int .i64 kK, .int .i64 kJ, .slice pV jG.length qI]] w fun e w' => ∃ D_ : Value, e = .returned (.agg #[.int .i64 r1, .int .i64 r2, D_]) ∧ Kd.R (Kd.int .i64) 22 w' w.heap.size (fun _ => True) D_ r3 ∧ ay w0 w' g r4 ∧ Below w0.heap.size w0 w' ∧ aW w w' g none := by
 have NF := Try.underlying31
 have zO := aj.mk qi
 have zS := aj.mk qO
 clear qi qO
 have ZM := aj.mk EU
 have ZU := aj.mk Fg
 clear EU Fg
 have HI0 := aj.mk hI
 have HK := aj.mk (aW.refl w g none)
 have HL := aj.mk hB.size
 clear hI
 have HW0 := aj.mk hB.size
 have HB := aj.mk hB
 clear hB
 have H : ((gX.f bU bW bK kK kJ jG).bind fun rZ => ((bY.f lN rZ.1 rZ.2.1 rZ.2.2.1 rZ.2.2.2.1 rZ.2.2.2.2).bind fun pq => ((iU.f bU bW bK).bind fun oG => ((gX.f pq.1 pq.2.1 pq.2.2.1 oG.1 oG.2.1 oG.2.2).bind fun gG => ((bY.f pq.2.2.2 gG.1 gG.2.1 gG.2.2.1 gG.2.2.2.1 gG.2.2.2.2).bind fun gB => (some (gB.1, gB.2.1, gB.2.2.1, gB.2.2.2))))))) = some (r1, r2, r3, r4) := h
 clear h
 replace H := Option.bind_eq_some_iff.mp H
 obtain ⟨⟨t106, t107, t108, t111, t112⟩, Gt, H⟩ := H
 replace H : ((bY.f lN t106 t107 t108 t111 t112).bind fun pq => ((iU.f bU bW bK).bind fun oG => ((gX.f pq.1 pq.2.1 pq.2.2.1 oG.1 oG.2.1 oG.2.2).bind fun gG => ((bY.f pq.2.2.2 gG.1 gG.2.1 gG.2.2.1 gG.2.2.2.1 gG.2.2.2.2).bind fun gB => (some (gB.1, gB.2.1, gB.2.2.1, gB.2.2.2)))))) = some (r1, r2, r3, r4) := H
 have A4 := aj.mk Gt
 clear Gt
 replace H := Option.bind_eq_some_iff.mp H
 obtain ⟨⟨t113, t114, t115, t118⟩, A50, H⟩ := H
 replace H : ((iU.f bU bW bK).bind fun oG => ((gX.f t113 t114 t115 oG.1 oG.2.1 oG.2.2).bind fun gG => ((bY.f t118 gG.1 gG.2.1 gG.2.2.1 gG.2.2.2.1 gG.2.2.2.2).bind fun gB => (some (gB.1, gB.2.1, gB.2.2.1, gB.2.2.2))))) = some (r1, r2, r3, r4) := H
 have A5 := aj.mk A50
 clear A50
 replace H := Option.bind_eq_some_iff.mp H
 obtain ⟨⟨t119, t120, t121⟩, Um, H⟩ := H
 replace H : ((gX.f t113 t114 t115 t119 t120 t121).bind fun gG => ((bY.f t118 gG.1 gG.2.1 gG.2.2.1 gG.2.2.2.1 gG.2.2.2.2).bind fun gB => (some (gB.1, gB.2.1, gB.2.2.1, gB.2.2.2)))) = some (r1, r2, r3, r4) := H
 have A6 := aj.mk Um
 clear Um
 replace H := Option.bind_eq_some_iff.mp H
 obtain ⟨⟨t124, t125, t126, t129, t130⟩, Ul, H⟩ := H
 replace H : ((bY.f t118 t124 t125 t126 t129 t130).bind fun gB => (some (gB.1, gB.2.1, gB.2.2.1, gB.2.2.2))) = some (r1, r2, r3, r4) := H
 have A7 := aj.mk Ul
 clear Ul
 replace H := Option.bind_eq_some_iff.mp H
 obtain ⟨⟨t131, t132, t133, t136⟩, Z_, H⟩ := H
 replace H : (some (t131, t132, t133, t136)) = some (r1, r2, r3, r4) := H
 have A8 := aj.mk Z_
 clear Z_
 simp only [Option.some.injEq, Prod.mk.injEq] at H
 obtain ⟨rfl, rfl, rfl, rfl⟩ := H
 go_enter Try.func103, Try.ntmps103
 try go_wp2_with (first | ((with_reducible refine dW (N := 4) rfl ?_); refine dO ?hg (N := 4) ?hd (cs := #[.int .i64 bU, .int .i64 bW, .slice fK bK.length fM]) (t := 31) ?hr ?_; (case hd => rfl); (case hg => rfl); (case hr => first | (go_simp; done) | (go_simp; rfl)); intro jU hg w9 hbox hb; have bu := aj.mk (ay.below (by repeat (first | (with_reducible first | exact HI0.out | apply ay.alloc | apply ay.drewN | apply ay.drew | apply ay.gm) | exact HI0.out)) hb); have fH := aj.mk (aW.trans (by repeat (first | (with_reducible first | exact HK.out | apply aW.nT | apply cZ | apply dD | apply dn) | exact HK.out)) (aW.of_below hb g none) (.inl rfl)); have fG := aj.mk (aQ (by repeat (first | (with_reducible first | exact HB.out | apply ak | apply ah | apply au | refine aB ?_ (ay.ge HI0.out)) | exact HB.out)) hb); have iG := aj.mk (hbox); have kQ := aj.mk ((by rw [hg]; exact (iq (w := w) (g := g) (row := none) (by repeat (first | (with_reducible first | exact HK.out | apply aW.nT | apply cZ | apply dD | apply dn) | exact HK.out))) : w.heap.size ≤ jU)); have kZ := aj.mk ((Nat.le_trans HW0.out (by rw [hg]; exact (iq (w := w) (g := g) (row := none) (by repeat (first | (with_reducible first | exact HK.out | apply aW.nT | apply cZ | apply dD | apply dn) | exact HK.out))) : w.heap.size ≤ jU) : w0.heap.size ≤ jU)); have mF := aj.mk ((by rw [hg]; exact Nat.ne_of_lt (ay.lt (show ay w0 _ g lN from by repeat (first | (with_reducible first | exact HI0.out | apply ay.alloc | apply ay.drewN | apply ay.drew | apply ay.gm) | exact HI0.out))) : g ≠ jU)); have uj := aj.mk ((by rw [hg]; exact Nat.ne_of_gt (ay.lt (show ay w0 _ g lN from by repeat (first | (with_reducible first | exact HI0.out | apply ay.alloc | apply ay.drewN | apply ay.drew | apply ay.gm) | exact HI0.out))) : jU ≠ g)); clear HI0; clear HK; clear HB; have HI0 := bu; have HK := fH; have HB := fG; have dM := iG; have kF := kQ; have xN := kZ; have jY := mF; have JP := uj; clear bu fH fG iG kQ kZ mF uj; clear hb hbox hg) | ((with_reducible refine dW (N := 5) rfl ?_); refine dO ?hg (N := 5) ?hd (cs := #[.int .i64 kK, .int .i64 kJ, .slice pV jG.length qI]) (t := 31) ?hr ?_; (case hd => rfl); (case hg => rfl); (case hr => first | (go_simp; done) | (go_simp; rfl)); intro lu hg w10 hbox hb; have bu := aj.mk (ay.below (by repeat (first | (with_reducible first | exact HI0.out | apply ay.alloc | apply ay.drewN | apply ay.drew | apply ay.gm | refine ay.far ?_ jY.out _) | exact HI0.out)) hb); have fH := aj.mk (bM (g := jU) (o := .cells #[.int .i64 bU, .int .i64 bW, .slice fK bK.length fM] 31 (0, 0)) (by (with_reducible repeat (first | refine aF ?_ _ | refine aK ?_ | refine aG ?_ _)); exact dM.out) hb); have fG := aj.mk (aW.trans (by repeat (first | (with_reducible first | exact HK.out | apply aW.nT | apply cZ | apply dD | apply dn | refine aX ?_ kF.out _) | exact HK.out)) (aW.of_below hb g none) (.inl rfl)); have iG := aj.mk (aQ (by repeat (first | (with_reducible first | exact HB.out | apply ak | apply ah | apply au | refine aB ?_ (ay.ge HI0.out) | refine aB ?_ xN.out) | exact HB.out)) hb); have kQ := aj.mk (hbox); have kZ := aj.mk ((by rw [hg]; exact (iq (w := w) (g := g) (row := none) (by repeat (first | (with_reducible first | exact HK.out | apply aW.nT | apply cZ | apply dD | apply dn | refine aX ?_ kF.out _) | exact HK.out))) : w.heap.size ≤ lu)); have mF := aj.mk ((Nat.le_trans HW0.out (by rw [hg]; exact (iq (w := w) (g := g) (row := none) (by repeat (first | (with_reducible first | exact HK.out | apply aW.nT | apply cZ | apply dD | apply dn | refine aX ?_ kF.out _) | exact HK.out))) : w.heap.size ≤ lu) : w0.heap.size ≤ lu)); have uj := aj.mk ((by rw [hg]; exact Nat.ne_of_lt (d_ (g := jU) (o := .cells #[.int .i64 bU, .int .i64 bW, .slice fK bK.length fM] 31 (0, 0)) (by (with_reducible repeat (first | refine aF ?_ _ | refine aK ?_ | refine aG ?_ _)); exact dM.out)) : jU ≠ lu)); have xu := aj.mk ((by rw [hg]; exact Nat.ne_of_gt (d_ (g := jU) (o := .cells #[.int .i64 bU, .int .i64 bW, .slice fK bK.length fM] 31 (0, 0)) (by (with_reducible repeat (first | refine aF ?_ _ | refine aK ?_ | refine aG ?_ _)); exact dM.out)) : lu ≠ jU)); have Je := aj.mk ((by rw [hg]; exact Nat.ne_of_lt (ay.lt (show ay w0 _ g lN from by repeat (first | (with_reducible first | exact HI0.out | apply ay.alloc | apply ay.drewN | apply ay.drew | apply ay.gm | refine ay.far ?_ jY.out _) | exact HI0.out))) : g ≠ lu)); have vG := aj.mk ((by rw [hg]; exact Nat.ne_of_gt (ay.lt (show ay w0 _ g lN from by repeat (first | (with_reducible first | exact HI0.out | apply ay.alloc | apply ay.drewN | apply ay.drew | apply ay.gm | refine ay.far ?_ jY.out _) | exact HI0.out))) : lu ≠ g)); clear HI0; clear dM; clear HK; clear HB; have HI0 := bu; have dM := fH; have HK := fG; have HB := iG; have dQ := kQ; have mQ := kZ; have zX := mF; have Xk := uj; have Xj := xu; have nK := Je; have JO := vG; clear bu fH fG iG kQ kZ mF uj xu Je vG; clear hb hbox hg) | ((with_reducible refine dW (N := 6) rfl ?_); refine dO ?hg (N := 6) ?hd (cs := #[.int .i64 0, .int .i64 0, .slice none 0 0]) (t := 31) ?hr ?_; (case hd => rfl); (case hg => rfl); (case hr => first | (go_simp; done) | (go_simp; rfl)); intro eG hg MJ hbox hb; have bu := aj.mk (ay.below (by repeat (first | (with_reducible first | exact HI0.out | apply ay.alloc | apply ay.drewN | apply ay.drew | apply ay.gm | refine ay.far ?_ jY.out _ | refine ay.far ?_ nK.out _) | exact HI0.out)) hb); have fH := aj.mk (bM (g := jU) (o := .cells #[.int .i64 bU, .int .i64 bW, .slice fK bK.length fM] 31 (0, 0)) (by (with_reducible repeat (first | refine aF ?_ _ | refine aK ?_ | refine aG ?_ _)); exact dM.out) hb); have fG := aj.mk (bM (g := lu) (o := .cells #[.int .i64 kK, .int .i64 kJ, .slice pV jG.length qI] 31 (0, 0)) (by (with_reducible repeat (first | refine aF ?_ _ | refine aK ?_ | refine aG ?_ _)); exact dQ.out) hb); have iG := aj.mk (aW.trans (by repeat (first | (with_reducible first | exact HK.out | apply aW.nT | apply cZ | apply dD | apply dn | refine aX ?_ kF.out _ | refine aX ?_ mQ.out _) | exact HK.out)) (aW.of_below hb g none) (.inl rfl)); have kQ := aj.mk (aQ (by repeat (first | (with_reducible first | exact HB.out | apply ak | apply ah | apply au | refine aB ?_ (ay.ge HI0.out) | refine aB ?_ xN.out | refine aB ?_ zX.out) | exact HB.out)) hb); have kZ := aj.mk (hbox); have mF := aj.mk ((by rw [hg]; exact (iq (w := w) (g := g) (row := none) (by repeat (first | (with_reducible first | exact HK.out | apply aW.nT | apply cZ | apply dD | apply dn | refine aX ?_ kF.out _ | refine aX ?_ mQ.out _) | exact HK.out))) : w.heap.size ≤ eG)); have uj := aj.mk ((Nat.le_trans HW0.out (by rw [hg]; exact (iq (w := w) (g := g) (row := none) (by repeat (first | (with_reducible first | exact HK.out | apply aW.nT | apply cZ | apply dD | apply dn | refine aX ?_ kF.out _ | refine aX ?_ mQ.out _) | exact HK.out))) : w.heap.size ≤ eG) : w0.heap.size ≤ eG)); have xu := aj.mk ((by rw [hg]; exact Nat.ne_of_lt (d_ (g := jU) (o := .cells #[.int .i64 bU, .int .i64 bW, .slice fK bK.length fM] 31 (0, 0)) (by (with_reducible repeat (first | refine aF ?_ _ | refine aK ?_ | refine aG ?_ _)); exact dM.out)) : jU ≠ eG)); have Je := aj.mk ((by rw [hg]; exact Nat.ne_of_gt (d_ (g := jU) (o := .cells #[.int .i64 bU, .int .i64 bW, .slice fK bK.length fM] 31 (0, 0)) (by (with_reducible repeat (first | refine aF ?_ _ | refine aK ?_ | refine aG ?_ _)); exact dM.out)) : eG ≠ jU)); have vG := aj.mk ((by rw [hg]; exact Nat.ne_of_lt (d_ (g := lu) (o := .cells #[.int .i64 kK, .int .i64 kJ, .slice pV jG.length qI] 31 (0, 0)) (by (with_reducible repeat (first | refine aF ?_ _ | refine aK ?_ | refine aG ?_ _)); exact dQ.out)) : lu ≠ eG)); have EJ := aj.mk ((by rw [hg]; exact Nat.ne_of_gt (d_ (g := lu) (o := .cells #[.int .i64 kK, .int .i64 kJ, .slice pV jG.length qI] 31 (0, 0)) (by (with_reducible repeat (first | refine aF ?_ _ | refine aK ?_ | refine aG ?_ _)); exact dQ.out)) : eG ≠ lu)); have XO := aj.mk ((by rw [hg]; exact Nat.ne_of_lt (ay.lt (show ay w0 _ g lN from by repeat (first | (with_reducible first | exact HI0.out | apply ay.alloc | apply ay.drewN | apply ay.drew | apply ay.gm | refine ay.far ?_ jY.out _ | refine ay.far ?_ nK.out _) | exact HI0.out))) : g ≠ eG)); have XN := aj.mk ((by rw [hg]; exact Nat.ne_of_gt (ay.lt (show ay w0 _ g lN from by repeat (first | (with_reducible first | exact HI0.out | apply ay.alloc | apply ay.drewN | apply ay.drew | apply ay.gm | refine ay.far ?_ jY.out _ | refine ay.far ?_ nK.out _) | exact HI0.out))) : eG ≠ g)); clear HI0; clear dM; clear dQ; clear HK; clear HB; have HI0 := bu; have dM := fH; have dQ := fG; have HK := iG; have HB := kQ; have gU := kZ; have pF := mF; have Cm := uj; have fZ := xu; have xg := Je; have fV := vG; have xe := EJ; have tN := XO; have JM := XN; clear bu fH fG iG kQ kZ mF uj xu Je vG EJ XO XN; clear hb hbox hg))
 have bu := aj.mk (aK dM.out)
 have fH := aj.mk (aK dQ.out)
 have fG := aj.mk (aK gU.out)
 have iG := aj.mk (ay.drew HI0.out)
 have kQ := aj.mk (dD HK.out)
 have kZ := aj.mk (au HB.out)
 clear dM
 clear dQ
 clear gU
 clear HI0
 clear HK
 clear HB
 have dM := bu
 have dQ := fH
 have gU := fG
 have HI0 := iG
 have HK := kQ
 have HB := kZ
 clear bu fH fG iG kQ kZ
 refine C_ (n := 17) (S := fun w' => w'.cell? ⟨jU, 0, none⟩ = some (.int .i64 bU) ∧ w'.cell? ⟨jU, 1, none⟩ = some (.int .i64 bW) ∧ w'.cell? ⟨jU, 2, none⟩ = some (.slice fK bK.length fM) ∧ w'.cell? ⟨lu, 0, none⟩ = some (.int .i64 kK) ∧ w'.cell? ⟨lu, 1, none⟩ = some (.int .i64 kJ) ∧ w'.cell? ⟨lu, 2, none⟩ = some (.slice pV jG.length qI)) (ds := []) #[false, false, false, false, false, false, false, false, false, false, false, false, false, false, false, false, false] (by kernel_rfl) rfl rfl ⟨(aC dM.out 0).trans rfl, (aC dM.out 1).trans rfl, (aC dM.out 2).trans rfl, (aC dQ.out 0).trans rfl, (aC dQ.out 1).trans rfl, (aC dQ.out 2).trans rfl⟩ (fun hHeld => ?_); refine sQ aZ.Qa aZ.Jy (fun jD Gm => ?_)
 generalize MJ.drew = w12 at dM dQ gU HI0 HK HB hHeld ⊢
 refine eu (i := 0) (N := some 7) (v := ?_) (a' := ?_) #[true, false, false, false, false, false, false, false, false, false, false, false, false, false, false, false, false] rfl rfl (dG jD.out (by kernel_rfl)) (fun _ _ _ h => h) (Or.inl ⟨by rfl, ?_⟩) ?_ ?_
 rotate_left
 · intro w'
   go_simp
   with_reducible rfl
 rotate_left
 · simp only [Act.put, List.setIfInBounds_toArray, List.set_cons_zero, List.set_cons_succ, bV, bZ]
   rfl
 refine eu (i := 1) (N := some 8) (v := ?_) (a' := ?_) #[true, true, false, false, false, false, false, false, false, false, false, false, false, false, false, false, false] rfl rfl (dG jD.out (by kernel_rfl)) (fun _ _ _ h => h) (Or.inl ⟨by rfl, ?_⟩) ?_ ?_
 rotate_left
 · intro w'
   go_simp
   with_reducible rfl
 rotate_left
 · simp only [Act.put, List.setIfInBounds_toArray, List.set_cons_zero, List.set_cons_succ, bV, bZ]
   rfl
 refine oO (i := 2) (N := some 9) (v := ?_) (a' := ?_) #[true, true, true, false, false, false, false, false, false, false, false, false, false, false, false, false, false] rfl rfl (f_ jD.out Gm.out (by kernel_rfl)) (fun _ _ _ h => h) (Or.inl ⟨by rfl, ?_⟩) hHeld ?_ ?_
 rotate_left
 · rintro w' ⟨s0, s1, s2, s3, s4, s5⟩
   go_simp
   with_reducible rfl
 rotate_left
 · simp only [Act.put, List.setIfInBounds_toArray, List.set_cons_zero, List.set_cons_succ, bV, bZ]
   rfl
 refine oO (i := 3) (N := some 10) (v := ?_) (a' := ?_) #[true, true, true, true, false, false, false, false, false, false, false, false, false, false, false, false, false] rfl rfl (f_ jD.out Gm.out (by kernel_rfl)) (fun _ _ _ h => h) (Or.inl ⟨by rfl, ?_⟩) hHeld ?_ ?_
 rotate_left
 · rintro w' ⟨s0, s1, s2, s3, s4, s5⟩
   go_simp
   with_reducible rfl
 rotate_left
 · simp only [Act.put, List.setIfInBounds_toArray, List.set_cons_zero, List.set_cons_succ, bV, bZ]
   rfl
 refine oO (i := 9) (N := some 16) (v := ?_) (a' := ?_) #[true, true, true, true, false, false, false, false, false, true, false, false, false, false, false, false, false] rfl rfl (f_ jD.out Gm.out (by kernel_rfl)) (fun _ _ _ h => h) (Or.inl ⟨by rfl, ?_⟩) hHeld ?_ ?_
 rotate_left
 · rintro w' ⟨s0, s1, s2, s3, s4, s5⟩
   go_simp
   with_reducible rfl
 rotate_left
 · simp only [Act.put, List.setIfInBounds_toArray, List.set_cons_zero, List.set_cons_succ, bV, bZ]
   rfl
 refine yU (i := 4) (N := some 11) #[true, true, true, true, true, false, false, false, false, true, false, false, false, false, false, false, false] rfl rfl (mX jD.out (by kernel_rfl)) (by decide) (fun K hK => ?_)
 refine uq Try.func101 (by kernel_rfl) rfl #[.agg #[.int .i64 bU, .int .i64 bW, .slice fK bK.length fM], .agg #[.int .i64 kK, .int .i64 kJ, .slice pV jG.length qI]] (by rfl) rfl rfl (by (try simp only [List.map_toArray, List.map_cons, List.map_nil]); first | done | rfl | (simp only [List.length_drop, List.length_take]; rfl)) ?_
 with_reducible refine (gX.calls bU bW _ _ bK kK kJ _ _ jG t106 t107 t108 t111 t112 _ ?jT ?jS ?uQ ?Ej A4.out).mono ?_
 (case jT => exact Kd.IQ 0 zO.out (by repeat (first | (with_reducible first | exact HK.out | apply aW.nT | apply cZ | apply dD | apply dn | refine aX ?_ kF.out _ | refine aX ?_ mQ.out _ | refine aX ?_ pF.out _) | exact HK.out)) Fb)
 (case jS => exact zS.out)
 (case uQ => exact Kd.IQ 0 ZM.out (by repeat (first | (with_reducible first | exact HK.out | apply aW.nT | apply cZ | apply dD | apply dn | refine aX ?_ kF.out _ | refine aX ?_ mQ.out _ | refine aX ?_ pF.out _) | exact HK.out)) Fa)
 (case Ej => exact ZU.out)
 rintro e ML ⟨v109, rfl, ho0, hb⟩
 refine ⟨_, rfl, ?_⟩
 have bu := aj.mk (Kd.nI ho0 (iq (w := w) (g := g) (row := none) (by repeat (first | (with_reducible first | exact HK.out | apply aW.nT | apply cZ | apply dD | apply dn | refine aX ?_ kF.out _ | refine aX ?_ mQ.out _ | refine aX ?_ pF.out _) | exact HK.out))))
 have fH := aj.mk (ay.below (by repeat (first | (with_reducible first | exact HI0.out | apply ay.alloc | apply ay.drewN | apply ay.drew | apply ay.gm | refine ay.far ?_ jY.out _ | refine ay.far ?_ nK.out _ | refine ay.far ?_ tN.out _) | exact HI0.out)) hb)
 have fG := aj.mk (bM (g := jU) (o := .cells #[.int .i64 bU, .int .i64 bW, .slice fK bK.length fM] 31 (0, 0)) (by (with_reducible repeat (first | refine aF ?_ _ | refine aK ?_ | refine aG ?_ _)); exact dM.out) hb)
 have iG := aj.mk (bM (g := lu) (o := .cells #[.int .i64 kK, .int .i64 kJ, .slice pV jG.length qI] 31 (0, 0)) (by (with_reducible repeat (first | refine aF ?_ _ | refine aK ?_ | refine aG ?_ _)); exact dQ.out) hb)
 have kQ := aj.mk (bM (g := eG) (o := .cells #[.int .i64 0, .int .i64 0, .slice none 0 0] 31 (0, 0)) (by (with_reducible repeat (first | refine aF ?_ _ | refine aK ?_ | refine aG ?_ _)); exact gU.out) hb)
 have kZ := aj.mk (aW.trans (by repeat (first | (with_reducible first | exact HK.out | apply aW.nT | apply cZ | apply dD | apply dn | refine aX ?_ kF.out _ | refine aX ?_ mQ.out _ | refine aX ?_ pF.out _) | exact HK.out)) (aW.of_below hb g none) (.inl rfl))
 have mF := aj.mk (aQ (by repeat (first | (with_reducible first | exact HB.out | apply ak | apply ah | apply au | refine aB ?_ (ay.ge HI0.out) | refine aB ?_ xN.out | refine aB ?_ zX.out | refine aB ?_ Cm.out) | exact HB.out)) hb)
 clear HI0
 clear dM
 clear dQ
 clear gU
 clear HK
 clear HB
 have xJ := bu
 have HI0 := fH
 have dM := fG
 have dQ := iG
 have gU := kQ
 have HK := kZ
 have HB := mF
 clear bu fH fG iG kQ kZ mF
 (try clear hb)
 (try clear hb2)
 (try clear hk)
 (try clear hi)
 (try clear ho0)
 obtain ⟨WU, VO, Yq⟩ := Kd.jg xJ.out
 (first | subst Yq | (injection Yq with Fq Ol Fp; have Oj := Fq.symm; have Oi := Fp.symm; clear Fq Ol Fp; subst Oj; subst Oi))
 refine hK.out _ _ ⟨(aC dM.out 0).trans rfl, (aC dM.out 1).trans rfl, (aC dM.out 2).trans rfl, (aC dQ.out 0).trans rfl, (aC dQ.out 1).trans rfl, (aC dQ.out 2).trans rfl⟩ (fun hHeld => ?_)
 clear hK K
 refine uh (a' := ?_) ?_ ?_
 rotate_left
 · show Act.put _ (some 11) _ = _
   simp only [Act.put, List.setIfInBounds_toArray, List.set_cons_zero, List.set_cons_succ, bV, bZ]
   rfl
 refine eu (i := 5) (N := some 12) (v := ?_) (a' := ?_) #[true, true, true, true, true, true, false, false, false, true, false, false, false, false, false, false, false] rfl rfl (dG jD.out (by kernel_rfl)) (fun _ _ _ h => h) (Or.inl ⟨by rfl, ?_⟩) ?_ ?_
 rotate_left
 · intro w'
   go_simp
   with_reducible rfl
 rotate_left
 · simp only [Act.put, List.setIfInBounds_toArray, List.set_cons_zero, List.set_cons_succ, bV, bZ]
   rfl
 refine eu (i := 6) (N := some 13) (v := ?_) (a' := ?_) #[true, true, true, true, true, true, true, false, false, true, false, false, false, false, false, false, false] rfl rfl (dG jD.out (by kernel_rfl)) (fun _ _ _ h => h) (Or.inl ⟨by rfl, ?_⟩) ?_ ?_
 rotate_left
 · intro w'
   go_simp
   with_reducible rfl
 rotate_left
 · simp only [Act.put, List.setIfInBounds_toArray, List.set_cons_zero, List.set_cons_succ, bV, bZ]
   rfl
 refine eu (i := 7) (N := some 14) (v := ?_) (a' := ?_) #[true, true, true, true, true, true, true, true, false, true, false, false, false, false, false, false, false] rfl rfl (dG jD.out (by kernel_rfl)) (fun _ _ _ h => h) (Or.inl ⟨by rfl, ?_⟩) ?_ ?_
 rotate_left
 · intro w'
   go_simp
   with_reducible rfl
 rotate_left
 · simp only [Act.put, List.setIfInBounds_toArray, List.set_cons_zero, List.set_cons_succ, bV, bZ]
   rfl
 refine yU (i := 8) (N := some 15) #[true, true, true, true, true, true, true, true, true, true, false, false, false, false, false, false, false] rfl rfl (mX jD.out (by kernel_rfl)) (by decide) (fun K hK => ?_)
 refine uq Try.func100 (by kernel_rfl) rfl #[.pointer (some ⟨g, 0, none⟩), .agg #[.int .i64 t106, .int .i64 t107, .slice WU t108.length VO], .bool t111, .int .i64 t112] (by rfl) rfl rfl (by (try simp only [List.map_toArray, List.map_cons, List.map_nil]); first | done | rfl | (simp only [List.length_drop, List.length_take]; rfl)) ?_
 with_reducible refine (bY.calls g lN t106 t107 (fun k_ => some k_ = (.slice WU t108.length VO : Value).ownBlock) (.slice WU t108.length VO) t108 t111 t112 t113 t114 t115 t118 w0 _ ?jT ?jS ?uQ A5.out).mono ?_
 (case jT => repeat (first | (with_reducible first | exact HI0.out | apply ay.alloc | apply ay.drewN | apply ay.drew | apply ay.gm | refine ay.far ?_ jY.out _ | refine ay.far ?_ nK.out _ | refine ay.far ?_ tN.out _) | exact HI0.out))
 (case jS => repeat (first | (with_reducible first | exact HB.out | apply ak | apply ah | apply au | refine aB ?_ (ay.ge HI0.out) | refine aB ?_ xN.out | refine aB ?_ zX.out | refine aB ?_ Cm.out) | exact HB.out))
 (case uQ => exact Kd.nI (Kd.JG rfl xJ.out) HL.out)
 rintro e w15 ⟨agT, rfl, ho0, hi, hb, hkp⟩
 refine ⟨_, rfl, ?_⟩
 have bu := aj.mk (hi)
 have fH := aj.mk (qm (by (with_reducible repeat (first | refine aF ?_ _ | refine aK ?_ | refine aG ?_ _)); exact dM.out) hkp (fun hs_ => Or.elim hs_ (fun hs_ => (fun e_ => (Kd.DU xJ.out dM.out (by decide)) e_) hs_) (fun e_ => JP.out e_)))
 have fG := aj.mk (qm (by (with_reducible repeat (first | refine aF ?_ _ | refine aK ?_ | refine aG ?_ _)); exact dQ.out) hkp (fun hs_ => Or.elim hs_ (fun hs_ => (fun e_ => (Kd.DU xJ.out dQ.out (by decide)) e_) hs_) (fun e_ => JO.out e_)))
 have iG := aj.mk (qm (by (with_reducible repeat (first | refine aF ?_ _ | refine aK ?_ | refine aG ?_ _)); exact gU.out) hkp (fun hs_ => Or.elim hs_ (fun hs_ => (fun e_ => (Kd.DU xJ.out gU.out (by decide)) e_) hs_) (fun e_ => JM.out e_)))
 have kQ := aj.mk (Kd.jO (ok' := fun k_ => True) (Kd.JH (d := (Kd.int .i64)) (b := w0.heap.size) (b' := w.heap.size) (fun _ _ _ _ h_ => h_) ho0 (fun k_ e_ => Or.elim (ho0.1 k_ e_) (fun hs_ => (fun e_ => Kd.uI xJ.out k_ e_.symm) hs_) (fun NH => Nat.le_trans (iq (w := w) (g := g) (row := none) (by repeat (first | (with_reducible first | exact HK.out | apply aW.nT | apply cZ | apply dD | apply dn | refine aX ?_ kF.out _ | refine aX ?_ mQ.out _ | refine aX ?_ pF.out _) | exact HK.out))) NH))) (fun k_ EW => trivial))
 have kZ := aj.mk (Kept.TG (by repeat (first | (with_reducible first | exact HK.out | apply aW.nT | apply cZ | apply dD | apply dn | refine aX ?_ kF.out _ | refine aX ?_ mQ.out _ | refine aX ?_ pF.out _) | exact HK.out)) hkp (fun k_ hs_ => Or.elim hs_ (fun hs_ => (fun e_ => .inr (Kd.uI xJ.out k_ e_.symm)) hs_) (fun e_ => .inl e_)))
 have mF := aj.mk (hb)
 clear HI0
 clear dM
 clear dQ
 clear gU
 clear HK
 clear HB
 clear xJ
 have HI0 := bu
 have dM := fH
 have dQ := fG
 have gU := iG
 have m_ := kQ
 have HK := kZ
 have HB := mF
 clear bu fH fG iG kQ kZ mF
 (try clear hb)
 (try clear hkp)
 (try clear ho0)
 refine hK.out _ _ ⟨(aC dM.out 0).trans rfl, (aC dM.out 1).trans rfl, (aC dM.out 2).trans rfl, (aC dQ.out 0).trans rfl, (aC dQ.out 1).trans rfl, (aC dQ.out 2).trans rfl⟩ (fun hHeld => ?_)
 clear hK K
 refine uh (a' := ?_) ?_ ?_
 rotate_left
 · show Act.put _ (some 15) _ = _
   simp only [Act.put, List.setIfInBounds_toArray, List.set_cons_zero, List.set_cons_succ, bV, bZ]
   rfl
 refine yU (i := 10) (N := some 17) #[true, true, true, true, true, true, true, true, true, true, true, false, false, false, false, false, false] rfl rfl (mX jD.out (by kernel_rfl)) (by decide) (fun K hK => ?_)
 refine uq Try.func77 (by kernel_rfl) rfl #[.agg #[.int .i64 bU, .int .i64 bW, .slice fK bK.length fM]] (by rfl) rfl rfl (by (try simp only [List.map_toArray, List.map_cons, List.map_nil]); first | done | rfl | (simp only [List.length_drop, List.length_take]; rfl)) ?_
 with_reducible refine (iU.calls bU bW _ _ bK t119 t120 t121 _ ?jT ?jS A6.out).mono ?_
 (case jT => exact Kd.IQ 0 zO.out (by repeat (first | (with_reducible first | exact HK.out | apply aW.nT | apply cZ | apply dD | apply dn | refine aX ?_ kF.out _ | refine aX ?_ mQ.out _ | refine aX ?_ pF.out _) | exact HK.out)) Fb)
 (case jS => exact zS.out)
 rintro e w16 ⟨agS, rfl, ho0, hb⟩
 refine ⟨_, rfl, ?_⟩
 have bu := aj.mk (Kd.zM (by (with_reducible repeat (first | apply Kd.fA | apply Kd.eY | apply Kd.fU)); exact m_.out) (Kd.uI ho0) hb)
 have fH := aj.mk (Kd.nI (Kd.IJ ho0 (Kd.Pv (by (with_reducible repeat (first | apply Kd.fA | apply Kd.eY | apply Kd.fU)); exact m_.out))) (iq (w := w) (g := g) (row := none) (by repeat (first | (with_reducible first | exact HK.out | apply aW.nT | apply cZ | apply dD | apply dn | refine aX ?_ kF.out _ | refine aX ?_ mQ.out _ | refine aX ?_ pF.out _) | exact HK.out))))
 have fG := aj.mk (ay.below (by repeat (first | (with_reducible first | exact HI0.out | apply ay.alloc | apply ay.drewN | apply ay.drew | apply ay.gm | refine ay.far ?_ jY.out _ | refine ay.far ?_ nK.out _ | refine ay.far ?_ tN.out _) | exact HI0.out)) hb)
 have iG := aj.mk (bM (g := jU) (o := .cells #[.int .i64 bU, .int .i64 bW, .slice fK bK.length fM] 31 (0, 0)) (by (with_reducible repeat (first | refine aF ?_ _ | refine aK ?_ | refine aG ?_ _)); exact dM.out) hb)
 have kQ := aj.mk (bM (g := lu) (o := .cells #[.int .i64 kK, .int .i64 kJ, .slice pV jG.length qI] 31 (0, 0)) (by (with_reducible repeat (first | refine aF ?_ _ | refine aK ?_ | refine aG ?_ _)); exact dQ.out) hb)
 have kZ := aj.mk (bM (g := eG) (o := .cells #[.int .i64 0, .int .i64 0, .slice none 0 0] 31 (0, 0)) (by (with_reducible repeat (first | refine aF ?_ _ | refine aK ?_ | refine aG ?_ _)); exact gU.out) hb)
 have mF := aj.mk (aW.trans (by repeat (first | (with_reducible first | exact HK.out | apply aW.nT | apply cZ | apply dD | apply dn | refine aX ?_ kF.out _ | refine aX ?_ mQ.out _ | refine aX ?_ pF.out _) | exact HK.out)) (aW.of_below hb g none) (.inl rfl))
 have uj := aj.mk (aQ (by repeat (first | (with_reducible first | exact HB.out | apply ak | apply ah | apply au | refine aB ?_ (ay.ge HI0.out) | refine aB ?_ xN.out | refine aB ?_ zX.out | refine aB ?_ Cm.out) | exact HB.out)) hb)
 clear m_
 clear HI0
 clear dM
 clear dQ
 clear gU
 clear HK
 clear HB
 have m_ := bu
 have qR := fH
 have HI0 := fG
 have dM := iG
 have dQ := kQ
 have gU := kZ
 have HK := mF
 have HB := uj
 clear bu fH fG iG kQ kZ mF uj
 (try clear hb)
 (try clear hb2)
 (try clear hk)
 (try clear hi)
 (try clear ho0)
 obtain ⟨WT, VN, Yp⟩ := Kd.jg m_.out
 (first | subst Yp | (injection Yp with Fq Ol Fp; have Oj := Fq.symm; have Oi := Fp.symm; clear Fq Ol Fp; subst Oj; subst Oi))
 obtain ⟨WS, Rh, Oz⟩ := Kd.jg qR.out
 (first | subst Oz | (injection Oz with Fq Ol Fp; have Oj := Fq.symm; have Oi := Fp.symm; clear Fq Ol Fp; subst Oj; subst Oi))
 refine hK.out _ _ ⟨(aC dM.out 0).trans rfl, (aC dM.out 1).trans rfl, (aC dM.out 2).trans rfl, (aC dQ.out 0).trans rfl, (aC dQ.out 1).trans rfl, (aC dQ.out 2).trans rfl⟩ (fun hHeld => ?_)
 clear hK K
 refine uh (a' := ?_) ?_ ?_
 rotate_left
 · show Act.put _ (some 17) _ = _
   simp only [Act.put, List.setIfInBounds_toArray, List.set_cons_zero, List.set_cons_succ, bV, bZ]
   rfl
 refine yU (i := 11) (N := some 18) #[true, true, true, true, true, true, true, true, true, true, true, true, false, false, false, false, false] rfl rfl (mX jD.out (by kernel_rfl)) (by decide) (fun K hK => ?_)
 refine uq Try.func101 (by kernel_rfl) rfl #[.agg #[.int .i64 t113, .int .i64 t114, .slice WT t115.length VN], .agg #[.int .i64 t119, .int .i64 t120, .slice WS t121.length Rh]] (by rfl) rfl rfl (by (try simp only [List.map_toArray, List.map_cons, List.map_nil]); first | done | rfl | (simp only [List.length_drop, List.length_take]; rfl)) ?_
 with_reducible refine (gX.calls t113 t114 _ _ t115 t119 t120 _ _ t121 t124 t125 t126 t129 t130 _ ?jT ?jS ?uQ ?Ej A7.out).mono ?_
 (case jT => repeat (first | exact (Kd.iQ m_.out).2.2 | (with_reducible refine Kd.nN ?_ _) | (with_reducible refine Kd.nM ?_ _) | (with_reducible refine Kd.qL ?_)))
 (case jS => exact (Kd.iQ m_.out).2.1)
 (case uQ => repeat (first | exact (Kd.iQ qR.out).2.2 | (with_reducible refine Kd.nN ?_ _) | (with_reducible refine Kd.nM ?_ _) | (with_reducible refine Kd.qL ?_)))
 (case Ej => exact (Kd.iQ qR.out).2.1)
 rintro e w19 ⟨v127, rfl, ho0, hb⟩
 refine ⟨_, rfl, ?_⟩
 have bu := aj.mk (Kd.zM (by (with_reducible repeat (first | apply Kd.fA | apply Kd.eY | apply Kd.fU)); exact m_.out) (Kd.uI ho0) hb)
 have fH := aj.mk (Kd.zM (by (with_reducible repeat (first | apply Kd.fA | apply Kd.eY | apply Kd.fU)); exact qR.out) (Kd.uI ho0) hb)
 have fG := aj.mk (Kd.nI (Kd.IJ (Kd.IJ ho0 (Kd.Pv (by (with_reducible repeat (first | apply Kd.fA | apply Kd.eY | apply Kd.fU)); exact m_.out))) (Kd.Pv (by (with_reducible repeat (first | apply Kd.fA | apply Kd.eY | apply Kd.fU)); exact qR.out))) (iq (w := w) (g := g) (row := none) (by repeat (first | (with_reducible first | exact HK.out | apply aW.nT | apply cZ | apply dD | apply dn | refine aX ?_ kF.out _ | refine aX ?_ mQ.out _ | refine aX ?_ pF.out _) | exact HK.out))))
 have iG := aj.mk (ay.below (by repeat (first | (with_reducible first | exact HI0.out | apply ay.alloc | apply ay.drewN | apply ay.drew | apply ay.gm | refine ay.far ?_ jY.out _ | refine ay.far ?_ nK.out _ | refine ay.far ?_ tN.out _) | exact HI0.out)) hb)
 have kQ := aj.mk (bM (g := jU) (o := .cells #[.int .i64 bU, .int .i64 bW, .slice fK bK.length fM] 31 (0, 0)) (by (with_reducible repeat (first | refine aF ?_ _ | refine aK ?_ | refine aG ?_ _)); exact dM.out) hb)
 have kZ := aj.mk (bM (g := lu) (o := .cells #[.int .i64 kK, .int .i64 kJ, .slice pV jG.length qI] 31 (0, 0)) (by (with_reducible repeat (first | refine aF ?_ _ | refine aK ?_ | refine aG ?_ _)); exact dQ.out) hb)
 have mF := aj.mk (bM (g := eG) (o := .cells #[.int .i64 0, .int .i64 0, .slice none 0 0] 31 (0, 0)) (by (with_reducible repeat (first | refine aF ?_ _ | refine aK ?_ | refine aG ?_ _)); exact gU.out) hb)
 have uj := aj.mk (aW.trans (by repeat (first | (with_reducible first | exact HK.out | apply aW.nT | apply cZ | apply dD | apply dn | refine aX ?_ kF.out _ | refine aX ?_ mQ.out _ | refine aX ?_ pF.out _) | exact HK.out)) (aW.of_below hb g none) (.inl rfl))
 have xu := aj.mk (aQ (by repeat (first | (with_reducible first | exact HB.out | apply ak | apply ah | apply au | refine aB ?_ (ay.ge HI0.out) | refine aB ?_ xN.out | refine aB ?_ zX.out | refine aB ?_ Cm.out) | exact HB.out)) hb)
 clear m_
 clear qR
 clear HI0
 clear dM
 clear dQ
 clear gU
 clear HK
 clear HB
 have m_ := bu
 have qR := fH
 have xI := fG
 have HI0 := iG
 have dM := kQ
 have dQ := kZ
 have gU := mF
 have HK := uj
 have HB := xu
 clear bu fH fG iG kQ kZ mF uj xu
 (try clear hb)
 (try clear hb2)
 (try clear hk)
 (try clear hi)
 (try clear ho0)
 obtain ⟨SL, LU, Oy⟩ := Kd.jg xI.out
 (first | subst Oy | (injection Oy with Fq Ol Fp; have Oj := Fq.symm; have Oi := Fp.symm; clear Fq Ol Fp; subst Oj; subst Oi))
 refine hK.out _ _ ⟨(aC dM.out 0).trans rfl, (aC dM.out 1).trans rfl, (aC dM.out 2).trans rfl, (aC dQ.out 0).trans rfl, (aC dQ.out 1).trans rfl, (aC dQ.out 2).trans rfl⟩ (fun hHeld => ?_)
 clear hK K
 refine uh (a' := ?_) ?_ ?_
 rotate_left
 · show Act.put _ (some 18) _ = _
   simp only [Act.put, List.setIfInBounds_toArray, List.set_cons_zero, List.set_cons_succ, bV, bZ]
   rfl
 refine eu (i := 12) (N := some 19) (v := ?_) (a' := ?_) #[true, true, true, true, true, true, true, true, true, true, true, true, true, false, false, false, false] rfl rfl (dG jD.out (by kernel_rfl)) (fun _ _ _ h => h) (Or.inl ⟨by rfl, ?_⟩) ?_ ?_
 rotate_left
 · intro w'
   go_simp
   with_reducible rfl
 rotate_left
 · simp only [Act.put, List.setIfInBounds_toArray, List.set_cons_zero, List.set_cons_succ, bV, bZ]
   rfl
 refine eu (i := 13) (N := some 20) (v := ?_) (a' := ?_) #[true, true, true, true, true, true, true, true, true, true, true, true, true, true, false, false, false] rfl rfl (dG jD.out (by kernel_rfl)) (fun _ _ _ h => h) (Or.inl ⟨by rfl, ?_⟩) ?_ ?_
 rotate_left
 · intro w'
   go_simp
   with_reducible rfl
 rotate_left
 · simp only [Act.put, List.setIfInBounds_toArray, List.set_cons_zero, List.set_cons_succ, bV, bZ]
   rfl
 refine eu (i := 14) (N := some 21) (v := ?_) (a' := ?_) #[true, true, true, true, true, true, true, true, true, true, true, true, true, true, true, false, false] rfl rfl (dG jD.out (by kernel_rfl)) (fun _ _ _ h => h) (Or.inl ⟨by rfl, ?_⟩) ?_ ?_
 rotate_left
 · intro w'
   go_simp
   with_reducible rfl
 rotate_left
 · simp only [Act.put, List.setIfInBounds_toArray, List.set_cons_zero, List.set_cons_succ, bV, bZ]
   rfl
 refine yU (i := 15) (N := some 22) #[true, true, true, true, true, true, true, true, true, true, true, true, true, true, true, true, false] rfl rfl (mX jD.out (by kernel_rfl)) (by decide) (fun K hK => ?_)
 refine uq Try.func100 (by kernel_rfl) rfl #[.pointer (some ⟨g, 0, none⟩), .agg #[.int .i64 t124, .int .i64 t125, .slice SL t126.length LU], .bool t129, .int .i64 t130] (by rfl) rfl rfl (by (try simp only [List.map_toArray, List.map_cons, List.map_nil]); first | done | rfl | (simp only [List.length_drop, List.length_take]; rfl)) ?_
 with_reducible refine (bY.calls g t118 t124 t125 (fun k_ => some k_ = (.slice SL t126.length LU : Value).ownBlock) (.slice SL t126.length LU) t126 t129 t130 t131 t132 t133 t136 w0 _ ?jT ?jS ?uQ A8.out).mono ?_
 (case jT => repeat (first | (with_reducible first | exact HI0.out | apply ay.alloc | apply ay.drewN | apply ay.drew | apply ay.gm | refine ay.far ?_ jY.out _ | refine ay.far ?_ nK.out _ | refine ay.far ?_ tN.out _) | exact HI0.out))
 (case jS => repeat (first | (with_reducible first | exact HB.out | apply ak | apply ah | apply au | refine aB ?_ (ay.ge HI0.out) | refine aB ?_ xN.out | refine aB ?_ zX.out | refine aB ?_ Cm.out) | exact HB.out))
 (case uQ => exact Kd.nI (Kd.JG rfl xI.out) HL.out)
 rintro e SV ⟨Xw, rfl, ho0, hi, hb, hkp⟩
 refine ⟨_, rfl, ?_⟩
 have bu := aj.mk (hi)
 have fH := aj.mk (qm (by (with_reducible repeat (first | refine aF ?_ _ | refine aK ?_ | refine aG ?_ _)); exact dM.out) hkp (fun hs_ => Or.elim hs_ (fun hs_ => (fun e_ => (Kd.DU xI.out dM.out (by decide)) e_) hs_) (fun e_ => JP.out e_)))
 have fG := aj.mk (qm (by (with_reducible repeat (first | refine aF ?_ _ | refine aK ?_ | refine aG ?_ _)); exact dQ.out) hkp (fun hs_ => Or.elim hs_ (fun hs_ => (fun e_ => (Kd.DU xI.out dQ.out (by decide)) e_) hs_) (fun e_ => JO.out e_)))
 have iG := aj.mk (qm (by (with_reducible repeat (first | refine aF ?_ _ | refine aK ?_ | refine aG ?_ _)); exact gU.out) hkp (fun hs_ => Or.elim hs_ (fun hs_ => (fun e_ => (Kd.DU xI.out gU.out (by decide)) e_) hs_) (fun e_ => JM.out e_)))
 have kQ := aj.mk (Kd.jO (ok' := fun k_ => some k_ ≠ (.slice WS t121.length Rh : Value).ownBlock ∧ some k_ ≠ (Xw : Value).ownBlock) (Kd.JI ((ay.apart HI0.out m_.out (by decide))) hkp (fun k_ EW hs_ => Or.elim hs_ (fun hs_ => (EW.1.2) hs_) (fun e_ => (EW.2) e_))) (fun k_ EW => ⟨EW.1.1.1.2, fun e_ => Or.elim (ho0.1 k_ e_.symm) (fun hs_ => EW.2.1 (.inl hs_)) (fun NH => Nat.not_le.2 EW.2.2 NH)⟩))
 have kZ := aj.mk (Kd.jO (ok' := fun k_ => some k_ ≠ (.slice WT t115.length VN : Value).ownBlock ∧ some k_ ≠ (Xw : Value).ownBlock) (Kd.JI ((ay.apart HI0.out qR.out (by decide))) hkp (fun k_ EW hs_ => Or.elim hs_ (fun hs_ => (EW.1.2) hs_) (fun e_ => (EW.2) e_))) (fun k_ EW => ⟨EW.1.1.1.2, fun e_ => Or.elim (ho0.1 k_ e_.symm) (fun hs_ => EW.2.1 (.inl hs_)) (fun NH => Nat.not_le.2 EW.2.2 NH)⟩))
 have mF := aj.mk (Kd.jO (ok' := fun k_ => some k_ ≠ (.slice WT t115.length VN : Value).ownBlock ∧ some k_ ≠ (.slice WS t121.length Rh : Value).ownBlock) (Kd.JH (d := (Kd.int .i64)) (b := w0.heap.size) (b' := w.heap.size) (fun _ _ _ _ h_ => h_) ho0 (fun k_ e_ => Or.elim (ho0.1 k_ e_) (fun hs_ => (fun e_ => Kd.uI xI.out k_ e_.symm) hs_) (fun NH => Nat.le_trans (iq (w := w) (g := g) (row := none) (by repeat (first | (with_reducible first | exact HK.out | apply aW.nT | apply cZ | apply dD | apply dn | refine aX ?_ kF.out _ | refine aX ?_ mQ.out _ | refine aX ?_ pF.out _) | exact HK.out))) NH))) (fun k_ EW => ⟨Or.elim EW (fun hs_ => fun e_ => ((((ay.apart HI0.out m_.out (by decide))).1 k_ e_.symm).1.2) hs_) (fun NH => (Kd.fresh' (Kd.Pv (by (with_reducible repeat (first | apply Kd.fA | apply Kd.eY | apply Kd.fU)); exact m_.out)) k_ NH)), Or.elim EW (fun hs_ => fun e_ => ((((ay.apart HI0.out qR.out (by decide))).1 k_ e_.symm).1.2) hs_) (fun NH => (Kd.fresh' (Kd.Pv (by (with_reducible repeat (first | apply Kd.fA | apply Kd.eY | apply Kd.fU)); exact qR.out)) k_ NH))⟩))
 have uj := aj.mk (Kept.TG (by repeat (first | (with_reducible first | exact HK.out | apply aW.nT | apply cZ | apply dD | apply dn | refine aX ?_ kF.out _ | refine aX ?_ mQ.out _ | refine aX ?_ pF.out _) | exact HK.out)) hkp (fun k_ hs_ => Or.elim hs_ (fun hs_ => (fun e_ => .inr (Kd.uI xI.out k_ e_.symm)) hs_) (fun e_ => .inl e_)))
 have xu := aj.mk (hb)
 clear HI0
 clear dM
 clear dQ
 clear gU
 clear m_
 clear qR
 clear HK
 clear HB
 clear xI
 have HI0 := bu
 have dM := fH
 have dQ := fG
 have gU := iG
 have m_ := kQ
 have qR := kZ
 have Uk := mF
 have HK := uj
 have HB := xu
 clear bu fH fG iG kQ kZ mF uj xu
 (try clear hb)
 (try clear hkp)
 (try clear ho0)
 obtain ⟨Z8, Yw, Yo⟩ := Kd.jg Uk.out
 (first | subst Yo | (injection Yo with Fq Ol Fp; have Oj := Fq.symm; have Oi := Fp.symm; clear Fq Ol Fp; subst Oj; subst Oi))
 refine hK.out _ _ ⟨(aC dM.out 0).trans rfl, (aC dM.out 1).trans rfl, (aC dM.out 2).trans rfl, (aC dQ.out 0).trans rfl, (aC dQ.out 1).trans rfl, (aC dQ.out 2).trans rfl⟩ (fun hHeld => ?_)
 clear hK K
 refine uh (a' := ?_) ?_ ?_
 rotate_left
 · show Act.put _ (some 22) _ = _
   simp only [Act.put, List.setIfInBounds_toArray, List.set_cons_zero, List.set_cons_succ, bV, bZ]
   rfl
 refine yU (i := 16) (N := none) #[true, true, true, true, true, true, true, true, true, true, true, true, true, true, true, true, true] rfl rfl (mX jD.out (by kernel_rfl)) (by decide) (fun K hK => ?_)
 have ahd : SV.cell? ⟨eG, 0, none⟩ = some (.int .i64 0) := (aC gU.out 0).trans rfl
 have aeY := aU gU.out 0
 have aaz := fZ.out
 have aay := fV.out
 have aaF := xg.out
 have aaE := xe.out
 have ahc : SV.cell? ⟨eG, 1, none⟩ = some (.int .i64 0) := (aC gU.out 1).trans rfl
 have aeX := aU gU.out 1
 have aax := fZ.out
 have aaw := fV.out
 have aaD := xg.out
 have aaC := xe.out
 have ahb : SV.cell? ⟨eG, 2, none⟩ = some (.slice none 0 0) := (aC gU.out 2).trans rfl
 have aeW := aU gU.out 2
 have aav := fZ.out
 have aau := fV.out
 have aaB := xg.out
 have aaA := xe.out
 refine Tj (w1 := ?_) (by rfl) rfl ?_ ?_
 rotate_left
 · go_simp
   rfl
 refine hK.out _ _ ⟨((cell_far (p := ⟨eG, _, none⟩) fZ.out _).trans (((cell_far (p := ⟨eG, _, none⟩) fZ.out _).trans (((cell_far (p := ⟨eG, _, none⟩) fZ.out _).trans (hHeld.1)))))), ((cell_far (p := ⟨eG, _, none⟩) fZ.out _).trans (((cell_far (p := ⟨eG, _, none⟩) fZ.out _).trans (((cell_far (p := ⟨eG, _, none⟩) fZ.out _).trans (hHeld.2.1)))))), ((cell_far (p := ⟨eG, _, none⟩) fZ.out _).trans (((cell_far (p := ⟨eG, _, none⟩) fZ.out _).trans (((cell_far (p := ⟨eG, _, none⟩) fZ.out _).trans (hHeld.2.2.1)))))), ((cell_far (p := ⟨eG, _, none⟩) fV.out _).trans (((cell_far (p := ⟨eG, _, none⟩) fV.out _).trans (((cell_far (p := ⟨eG, _, none⟩) fV.out _).trans (hHeld.2.2.2.1)))))), ((cell_far (p := ⟨eG, _, none⟩) fV.out _).trans (((cell_far (p := ⟨eG, _, none⟩) fV.out _).trans (((cell_far (p := ⟨eG, _, none⟩) fV.out _).trans (hHeld.2.2.2.2.1)))))), ((cell_far (p := ⟨eG, _, none⟩) fV.out _).trans (((cell_far (p := ⟨eG, _, none⟩) fV.out _).trans (((cell_far (p := ⟨eG, _, none⟩) fV.out _).trans (hHeld.2.2.2.2.2))))))⟩ (fun hHeld => ?_)
 clear hK K
 refine Js (yx jD.out (by kernel_rfl)) ?_
 try go_wp2
 refine bodyPost_ret (results_cell_row rfl _ _ eG 31 #[.int .i64 t131, .int .i64 t132, .slice Z8 t133.length Yw] (0, 0) _ rfl (by (with_reducible repeat (first | refine aF ?_ _ | refine aK ?_ | refine aG ?_ _)); refine gJ (cs := #[.int .i64 t131, .int .i64 t132, .slice none 0 0]) ?_ 2 _ rfl; (with_reducible repeat (first | refine aF ?_ _ | refine aK ?_ | refine aG ?_ _)); refine gJ (cs := #[.int .i64 t131, .int .i64 0, .slice none 0 0]) ?_ 1 _ rfl; (with_reducible repeat (first | refine aF ?_ _ | refine aK ?_ | refine aG ?_ _)); refine gJ (cs := #[.int .i64 0, .int .i64 0, .slice none 0 0]) ?_ 0 _ rfl; (with_reducible repeat (first | refine aF ?_ _ | refine aK ?_ | refine aG ?_ _)); exact gU.out) Try.underlying31 rfl (by kernel_rfl)) rfl ?_
 exact ⟨_, by first | rfl | (simp [aI, aH] <;> rfl) | (simp [*, aI, aH] <;> rfl), by (with_reducible repeat (first | apply Kd.fA | apply Kd.eY | apply Kd.fU)); exact Kd.jO (Kd.mP (p := ⟨eG, 2, none⟩) (Kd.mP (p := ⟨eG, 1, none⟩) (Kd.mP (p := ⟨eG, 0, none⟩) (Kd.tH Uk.out gU.out (by decide)) (fun _ hk => hk.2) (.int .i64 t131)) (fun _ hk => hk.2) (.int .i64 t132)) (fun _ hk => hk.2) (.slice Z8 t133.length Yw)) (fun _ hk => trivial), by repeat (first | (with_reducible first | exact HI0.out | apply ay.alloc | apply ay.drewN | apply ay.drew | apply ay.gm | refine ay.far ?_ jY.out _ | refine ay.far ?_ nK.out _ | refine ay.far ?_ tN.out _) | exact HI0.out), by repeat (first | (with_reducible first | exact HB.out | apply ak | apply ah | apply au | refine aB ?_ (ay.ge HI0.out) | refine aB ?_ xN.out | refine aB ?_ zX.out | refine aB ?_ Cm.out) | exact HB.out), by repeat (first | (with_reducible first | exact HK.out | apply aW.nT | apply cZ | apply dD | apply dn | refine aX ?_ kF.out _ | refine aX ?_ mQ.out _ | refine aX ?_ pF.out _) | exact HK.out)⟩
end Go.Proofs.Ytnijhjbcjeohhaa.PR

