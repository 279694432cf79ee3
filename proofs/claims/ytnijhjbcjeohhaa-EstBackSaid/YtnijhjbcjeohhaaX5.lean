import Derived.Test.YtnijhjbcjeohhaaX4
import Derived.Laws.MakeOwn
import Derived.Laws.IdiomCopy
import Derived.Test.YtnijhjbcjeohhaaProg
import Derived.Test.YtnijhjbcjeohhaaX1
/- Joined and thinned by a program of this session's own (wip/pack2.py) out of its texts (wip/ of its repo); parts were laid by its own program (wip/print-patch.py over the kit's print) out of the translation; Lean checks all. -/
set_option maxRecDepth 100000
set_option maxHeartbeats 8000000
namespace Go.Proofs.Ytnijhjbcjeohhaa.KK
open Go.RowKit Go.Proofs.af.aF Go.Proofs.af.aP Go.Proofs.af.aQ
set_option linter.unusedVariables false
set_option linter.unusedSimpArgs false
def jk (r c : Nat) (l : List Int) (q : Int) : List Int := upto c (fun i k => (gZ (l.getD (i * c + k) 0) q).1) r
def scaleB (r c : Nat) (l : List Int) (q : Int) : Bool := o9 c (fun i k => (gZ (l.getD (i * c + k) 0) q).2) r
theorem Ih : Enters 129 := enters Try.func129 rfl rfl
theorem Ii : Enters 114 := enters Try.func114 rfl rfl
theorem yU (r c : Nat) (A : Option Addr) (cp : Nat) (g : Nat) (q : Int) (l : List Int) (w : World) (hr : r ≤ 8) (hc : c ≤ 8) (hl : l.length = r * c) (hA : Rd w A l)
 (R : Row w g 31 #[I r, I c, (.slice A l.length cp)]) (R' : Row w (g + 1) 22 #[I q]) :
 rO w 129 #[.pointer (some ⟨g, 0, none⟩), .pointer (some ⟨g + 1, 0, none⟩)] r c (fun i k => (gZ (l.getD (i * c + k) 0) q).1) (fun i k => (gZ (l.getD (i * c + k) 0) q).2) := by
 intro i k w' hi hk hb
 have R1 := Lib.hid (R.below hb R.lt)
 have R2 := Lib.hid (R'.below hb R'.lt)
 have hle : r * c ≤ 8 * 8 := Nat.mul_le_mul hr hc
 have hlt : i * c + k < r * c := jR hi hk
 have H1 := Lib.hid (fun w' h => jy r c A cp l i k w' h (by rw [hl]; exact hlt) (by rw [hl]; omega))
 have A1 := Lib.hid (hA.below hb)
 obtain ⟨x, hx⟩ : ∃ x, l.getD (i * c + k) 0 = x := ⟨_, rfl⟩
 rw [hx] at H1
 show Calls Try.prog 129 #[I i, I k, .pointer (some ⟨g, 0, none⟩), .pointer (some ⟨g + 1, 0, none⟩)] w' fun e w'' => e = .returned (.tuple #[I (gZ (l.getD (i * c + k) 0) q).1, .bool (gZ (l.getD (i * c + k) 0) q).2]) ∧ Below w'.heap.size w' w''
 rw [hx]
 have H3 := Lib.hid (fun w => gQ x q w)
 obtain ⟨z, hz⟩ : ∃ z, gZ x q = z := ⟨_, rfl⟩
 rw [hz] at H3 ⊢
 obtain ⟨z1, z2⟩ := z
 clear hb R R' hA hr hc hle hl hx hz hlt
 have K : Hid (∀ w2, Below w'.heap.size w' w2 → (∀ o, w2.cell? ⟨g, o, none⟩ = #[I r, I c, (.slice A l.length cp)][o]?) ∧ (∀ o, w2.cell? ⟨g + 1, o, none⟩ = #[I q][o]?)) := Lib.hid (fun w2 hb => ⟨(R1.out.below hb R1.out.lt).cell, (R2.out.below hb R2.out.lt).cell⟩)
 have B0 := Lib.hid (Below.refl w'.heap.size w')
 have B1 := Lib.hid B0.out.drew
 have x2 := R1.out.cell
 have x3 := R2.out.cell
 clear R1 R2
 go_enter Try.func129, Try.ntmps129
 go_wp2_with fail
 go_region_held3 (fun w2 => (∀ o, w2.cell? ⟨g, o, none⟩ = #[I r, I c, (.slice A l.length cp)][o]?) ∧ (∀ o, w2.cell? ⟨g + 1, o, none⟩ = #[I q][o]?))
  (first | with_reducible exact K.out _ B3.out | with_reducible exact K.out _ B2.out | with_reducible exact K.out _ B1.out | with_reducible exact K.out _ B0.out)
  (first
    | (go_at_call 67
       refine (H3.out _).mono ?_
       rintro e w4 ⟨rfl, hb⟩
       have B3 := Lib.hid (B2.out.trans (hb.mono B2.out.size))
       clear hb)
    | (go_at_call 110
       refine (H1.out _ (A1.out.below B1.out)).mono ?_
       rintro e w2 ⟨rfl, hb⟩
       have B2 := Lib.hid (B1.out.trans (hb.mono B1.out.size))
       clear hb))
 all_goals
  go_wp2
  go_ret2
  exact ⟨rfl, B3.out⟩
theorem ES (r c : Nat) (A : Option Addr) (cp : Nat) (l : List Int) (q : Int) (w : World) (hr : r ≤ 8) (hc : c ≤ 8) (hl : l.length = r * c) (hA : Rd w A l) (hcp : l.length ≤ cp) :
 Calls Try.prog 125 #[.agg #[I r, I c, (.slice A l.length cp)], I q] w fun e w' => ∃ v, e = .returned (.tuple #[.agg #[I r, I c, v], .bool (scaleB r c l q)]) ∧ Own w' w.heap.size v (jk r c l q) ∧ Below w.heap.size w w' := by
 have N : Hid (aV w [(31, #[I r, I c, (.slice A l.length cp)]), (22, #[I q]), (31, #[I 0, I 0, .slice none 0 0])] (((w.alloc (.cells #[I r, I c, (.slice A l.length cp)] 31)).alloc (.cells #[I q] 22)).alloc (.cells #[I 0, I 0, .slice none 0 0] 31))) := Lib.hid ((((aV.none w).push (by simp) _ _).push (by simp) _ _).push (by simp) _ _)
 have O1 := Lib.hid (fun w' h => lQ r c A l cp w' h hcp)
 have HA := Lib.hid hA
 obtain ⟨L, hL⟩ : ∃ L, jk r c l q = L := ⟨_, rfl⟩
 obtain ⟨b, hb⟩ : ∃ b, scaleB r c l q = b := ⟨_, rfl⟩
 have HM := Lib.hid (fun w' (h : aV w [(31, #[I r, I c, (.slice A l.length cp)]), (22, #[I q]), (31, #[I 0, I 0, .slice none 0 0])] w') => nS 129 #[.pointer (some ⟨w.heap.size, 0, none⟩), .pointer (some ⟨w.heap.size + 1, 0, none⟩)] r c _ _ w' L b hL hb hr hc Ih (yU r c A cp w.heap.size q l w' hr hc hl (hA.below h.be) h.r0 h.r1))
 rw [hL, hb]
 clear hr hc hl hA hcp hL hb
 have hmf := hmf
 go_enter Try.func125, Try.ntmps125
 go_wp2_with fail
 refine (O1.out _ (HA.out.below N.out.be)).mono ?_
 rintro e w4 ⟨rfl, hb⟩
 have N4 := Lib.hid (N.out.below hb)
 clear hb N
 go_wp2_with fail
 refine (HM.out _ N4.out).mono ?_
 rintro e w5 ⟨A2, c2, rfl, ho, hb⟩
 have O := Lib.hid ho
 have N5 := Lib.hid (N4.out.below hb)
 have L4 := N4.out.r2.lt
 clear ho hb
 have x3 := N5.out.r2.cell
 have g3 := N5.out.r2.free
 have t3 := N5.out.r2.lt
 go_wp2
 refine bodyPost_ret (Du rfl rfl (N5.out.r2.bz _ _ _)) rfl ⟨_, rfl, ?_, Below.bz N5.out.be (by omega) _ _ _⟩
 exact (O.out.bz (by omega) _ _ _).lower (by omega)
def yF (c1 c2 : Nat) (l m : List Int) (i k : Nat) : Nat → Int × Bool
 | 0 => (0, false)
 | j + 1 =>
   let p := gZ (l.getD (i * c1 + j) 0) (m.getD (j * c2 + k) 0)
   let t := gu (yF c1 c2 l m i k j).1 p.1
   (t.1, (yF c1 c2 l m i k j).2 || p.2 || t.2)
def mulL (r c1 c2 : Nat) (l m : List Int) : List Int := upto c2 (fun i k => (yF c1 c2 l m i k c1).1) r
def nR (r c1 c2 : Nat) (l m : List Int) : Bool := o9 c2 (fun i k => (yF c1 c2 l m i k c1).2) r
theorem Et (r c1 c2 : Nat) (A A' : Option Addr) (cp cp' g : Nat) (l m : List Int) (w : World) (hr : r ≤ 8) (hc1 : c1 ≤ 8) (hc2 : c2 ≤ 8) (hl : l.length = r * c1) (hm : m.length = c1 * c2) (hA : Rd w A l) (hA' : Rd w A' m)
 (R : Row w g 31 #[I r, I c1, (.slice A l.length cp)]) (R' : Row w (g + 1) 31 #[I c1, I c2, (.slice A' m.length cp')]) :
 rO w 114 #[.pointer (some ⟨g, 0, none⟩), .pointer (some ⟨g + 1, 0, none⟩)] r c2 (fun i k => (yF c1 c2 l m i k c1).1) (fun i k => (yF c1 c2 l m i k c1).2) := by
 intro i k w' hi hk hb
 have R1 := Lib.hid (R.below hb R.lt)
 have R2 := Lib.hid (R'.below hb R'.lt)
 have hle : r * c1 ≤ 8 * 8 := Nat.mul_le_mul hr hc1
 have hle2 : c1 * c2 ≤ 8 * 8 := Nat.mul_le_mul hc1 hc2
 have H1 := Lib.hid (fun w' j h (hj : j < c1) => jy r c1 A cp l i j w' h (by rw [hl]; exact jR hi hj) (by rw [hl]; omega))
 have H2 := Lib.hid (fun w' j h (hj : j < c1) => jy c1 c2 A' cp' m j k w' h (by rw [hm]; exact jR hj hk) (by rw [hm]; omega))
 have A1 := Lib.hid (hA.below hb)
 have A2 := Lib.hid (hA'.below hb)
 have HC := Lib.hid hc1
 show Calls Try.prog 114 #[I i, I k, .pointer (some ⟨g, 0, none⟩), .pointer (some ⟨g + 1, 0, none⟩)] w' fun e w'' => e = .returned (.tuple #[I (yF c1 c2 l m i k c1).1, .bool (yF c1 c2 l m i k c1).2]) ∧ Below w'.heap.size w' w''
 obtain ⟨f, hf⟩ : ∃ f, yF c1 c2 l m i k = f := ⟨_, rfl⟩
 have hs : ∀ j, f (j + 1) = ((gu (f j).1 (gZ (l.getD (i * c1 + j) 0) (m.getD (j * c2 + k) 0)).1).1, (f j).2 || (gZ (l.getD (i * c1 + j) 0) (m.getD (j * c2 + k) 0)).2 || (gu (f j).1 (gZ (l.getD (i * c1 + j) 0) (m.getD (j * c2 + k) 0)).1).2) := fun j => by subst hf; rfl
 have h0 : f 0 = (0, false) := by subst hf; rfl
 rw [hf]
 have HF := Lib.hid hs
 have H0 := Lib.hid h0
 clear hb R R' hA hA' hr hc1 hc2 hle hle2 hl hm hf hs h0
 have K : Hid (∀ w2, Below w'.heap.size w' w2 → (∀ o, w2.cell? ⟨g, o, none⟩ = #[I r, I c1, (.slice A l.length cp)][o]?) ∧ (∀ o, w2.cell? ⟨g + 1, o, none⟩ = #[I c1, I c2, (.slice A' m.length cp')][o]?)) := Lib.hid (fun w2 hb => ⟨(R1.out.below hb R1.out.lt).cell, (R2.out.below hb R2.out.lt).cell⟩)
 have B0 := Lib.hid (Below.refl w'.heap.size w')
 have x2 := R1.out.cell
 have x3 := R2.out.cell
 clear R1 R2
 go_enter Try.func114, Try.ntmps114
 go_wp2_with fail
 go_loopw [8, 9, 17] (fun su od jj wr => ∃ (j : Nat) (sv : Int) (ov : Bool), j ≤ c1 ∧ jj = .int .i64 j ∧ su = .int .i64 sv ∧ od = .bool ov ∧ Hid (f j = (sv, ov)) ∧ Hid (Below w'.heap.size w' wr)) (fun _ _ jj _ => c1 - (intOf jj).toNat)
 case atStart => exact ⟨0, 0, false, by omega, rfl, rfl, rfl, Lib.hid H0.out, B0⟩
 case round =>
  clear B0
  obtain ⟨j, sv, ov, hj, rfl, rfl, rfl, F, B0⟩ := hrel
  clear x2 x3
  have x2 := (K.out _ B0.out).1
  have x3 := (K.out _ B0.out).2
  by_cases hjc : j = c1
  · subst hjc
    go_wp2
    go_ret2
    exact ⟨by rw [F.out]; rfl, B0.out⟩
  have hlt : (j : Int) < c1 := by omega
  have HJ := Lib.hid (show j < c1 by omega)
  have STEP : Hid (j + 1 ≤ c1 ∧ c1 - (j + 1) < c1 - j) := Lib.hid (by omega)
  have hw64 : IntKind.i64.wrap ((j : Int) + 1) = (j : Int) + 1 := by have := HC.out; simp [IntKind.wrap, IntKind.bits, IntKind.signed]; omega
  obtain ⟨x, hx⟩ : ∃ x, l.getD (i * c1 + j) 0 = x := ⟨_, rfl⟩
  obtain ⟨y, hy⟩ : ∃ y, m.getD (j * c2 + k) 0 = y := ⟨_, rfl⟩
  obtain ⟨p, hp⟩ : ∃ p, gZ x y = p := ⟨_, rfl⟩
  obtain ⟨p1, p2⟩ := p
  obtain ⟨t, ht⟩ : ∃ t, gu sv p1 = t := ⟨_, rfl⟩
  obtain ⟨t1, t2⟩ := t
  have F2 : Hid (f (j + 1) = (t1, ov || p2 || t2)) := Lib.hid (by rw [HF.out, F.out, hx, hy, hp]; dsimp only; rw [ht])
  have G1 := Lib.hid (fun w' h => H1.out w' j h HJ.out)
  have G2 := Lib.hid (fun w' h => H2.out w' j h HJ.out)
  have G3 := Lib.hid (fun w => gQ x y w)
  have G4 := Lib.hid (fun w => pM sv p1 w)
  rw [hx] at G1
  rw [hy] at G2
  rw [hp] at G3
  rw [ht] at G4
  dsimp only at G3 G4
  clear hx hy hp ht hj hjc
  have B1 := Lib.hid B0.out.drew
  go_wp2_with fail
  go_region_held3 (fun w2 => (∀ o, w2.cell? ⟨g, o, none⟩ = #[I r, I c1, (.slice A l.length cp)][o]?) ∧ (∀ o, w2.cell? ⟨g + 1, o, none⟩ = #[I c1, I c2, (.slice A' m.length cp')][o]?))
   (first | with_reducible exact K.out _ B4.out | with_reducible exact K.out _ B3.out | with_reducible exact K.out _ B2.out | with_reducible exact K.out _ B1.out | with_reducible exact K.out _ B0.out)
   (first
     | (go_at_call 67
        refine (G3.out _).mono ?_
        rintro e w4 ⟨rfl, hb⟩
        have B4 := Lib.hid (B3.out.trans (hb.mono B3.out.size))
        clear hb)
     | (go_at_call 110
        refine (G2.out _ (A2.out.below B2.out)).mono ?_
        rintro e w3 ⟨rfl, hb⟩
        have B3 := Lib.hid (B2.out.trans (hb.mono B2.out.size))
        clear hb)
     | (go_at_call 110
        refine (G1.out _ (A1.out.below B1.out)).mono ?_
        rintro e w2 ⟨rfl, hb⟩
        have B2 := Lib.hid (B1.out.trans (hb.mono B1.out.size))
        clear hb))
  go_wp2_with fail
  refine (G4.out _).mono ?_
  rintro e w5 ⟨rfl, hb⟩
  have B5 := Lib.hid (B4.out.trans (hb.mono B4.out.size))
  clear hb
  cases ov
  · cases p2
    all_goals
     go_wp2
     go_roundw
     case rel => exact ⟨j + 1, t1, _, STEP.out.1, by go_num, rfl, rfl, by simpa using F2, B5⟩
     case measure =>
      have h := STEP.out.2
      show c1 - ((j : Int) + 1).toNat < c1 - ((j : Int)).toNat
      rw [show ((j : Int) + 1).toNat = j + 1 by omega, show ((j : Int)).toNat = j by omega]
      exact h
  · go_wp2
    go_roundw
    case rel => exact ⟨j + 1, t1, _, STEP.out.1, by go_num, rfl, rfl, by simpa using F2, B5⟩
    case measure =>
     have h := STEP.out.2
     show c1 - ((j : Int) + 1).toNat < c1 - ((j : Int)).toNat
     rw [show ((j : Int) + 1).toNat = j + 1 by omega, show ((j : Int)).toNat = j by omega]
     exact h
theorem qV (r c1 c2 : Nat) (A A' : Option Addr) (cp cp' : Nat) (l m : List Int) (w : World) (hr : r ≤ 8) (hc1 : c1 ≤ 8) (hc2 : c2 ≤ 8) (hl : l.length = r * c1) (hm : m.length = c1 * c2) (hA : Rd w A l) (hA' : Rd w A' m) :
 Calls Try.prog 101 #[.agg #[I r, I c1, (.slice A l.length cp)], .agg #[I c1, I c2, (.slice A' m.length cp')]] w fun e w' => ∃ v, e = .returned (.tuple #[.agg #[I r, I c2, v], .bool (nR r c1 c2 l m), I 0]) ∧ Own w' w.heap.size v (mulL r c1 c2 l m) ∧ Below w.heap.size w w' := by
 have N : Hid (aV w [(31, #[I r, I c1, (.slice A l.length cp)]), (31, #[I c1, I c2, (.slice A' m.length cp')]), (31, #[I 0, I 0, .slice none 0 0])] (((w.alloc (.cells #[I r, I c1, (.slice A l.length cp)] 31)).alloc (.cells #[I c1, I c2, (.slice A' m.length cp')] 31)).alloc (.cells #[I 0, I 0, .slice none 0 0] 31))) := Lib.hid ((((aV.none w).push (by simp) _ _).push (by simp) _ _).push (by simp) _ _)
 obtain ⟨L, hL⟩ : ∃ L, mulL r c1 c2 l m = L := ⟨_, rfl⟩
 obtain ⟨b, hb⟩ : ∃ b, nR r c1 c2 l m = b := ⟨_, rfl⟩
 have HM := Lib.hid (nS 114 #[.pointer (some ⟨w.heap.size, 0, none⟩), .pointer (some ⟨w.heap.size + 1, 0, none⟩)] r c2 _ _ _ L b hL hb hr hc2 Ii (Et r c1 c2 A A' cp cp' w.heap.size l m _ hr hc1 hc2 hl hm (hA.below N.out.be) (hA'.below N.out.be) N.out.r0 N.out.r1))
 rw [hL, hb]
 clear hr hc1 hc2 hl hm hA hA' hL hb
 have hmf := hmf
 have e1 : ((c1 : Int) != (c1 : Int)) = false := by simp
 go_enter Try.func101, Try.ntmps101
 go_wp2_with fail
 refine HM.out.mono ?_
 rintro e w5 ⟨A2, c3, rfl, ho, hb⟩
 have O := Lib.hid ho
 have N5 := Lib.hid (N.out.below hb)
 clear ho hb N HM
 have x3 := N5.out.r2.cell
 have g3 := N5.out.r2.free
 have t3 := N5.out.r2.lt
 go_wp2
 refine bodyPost_ret (oD rfl rfl ((N5.out.r2.bz _ _ _).alloc _)) rfl ⟨_, rfl, ?_, (Below.bz N5.out.be (by omega) _ _ _).alloc (by have := N5.out.be.size; simp; omega) _⟩
 exact ((O.out.bz (by simp) _ _ _).alloc _).lower (by simp; omega)
theorem zo (r c1 r2 c2 : Int) (A A' : Option Addr) (cp cp' : Nat) (l m : List Int) (w : World) (hne : c1 ≠ r2) :
 Calls Try.prog 101 #[.agg #[I r, I c1, (.slice A l.length cp)], .agg #[I r2, I c2, (.slice A' m.length cp')]] w fun e w' => e = .returned (.tuple #[.agg #[I 0, I 0, .slice none 0 0], .bool false, I 9]) ∧ Below w.heap.size w w' := by
 have N : Hid (aV w [(31, #[I r, I c1, (.slice A l.length cp)]), (31, #[I r2, I c2, (.slice A' m.length cp')]), (31, #[I 0, I 0, .slice none 0 0])] (((w.alloc (.cells #[I r, I c1, (.slice A l.length cp)] 31)).alloc (.cells #[I r2, I c2, (.slice A' m.length cp')] 31)).alloc (.cells #[I 0, I 0, .slice none 0 0] 31))) := Lib.hid ((((aV.none w).push (by simp) _ _).push (by simp) _ _).push (by simp) _ _)
 have e1 : (c1 != r2) = true := by simpa using hne
 clear hne
 have x3 := N.out.r2.cell
 have g3 := N.out.r2.free
 go_enter Try.func101, Try.ntmps101
 go_wp2
 exact bodyPost_ret (oD rfl rfl N.out.r2) rfl ⟨rfl, N.out.be⟩
end Go.Proofs.Ytnijhjbcjeohhaa.KK

namespace Go.Proofs.Ytnijhjbcjeohhaa.KK
open Go.RowKit Go.Proofs.af.aF Go.Proofs.af.aP Go.Proofs.af.aQ
set_option linter.unusedVariables false
set_option linter.unusedSimpArgs false
def lg (q : Int) : Bool := decide (q < -70368744177664) || decide (q > 70368744177663)
theorem BL (q : Int) (w : World) : Calls Try.prog 106 #[I q] w fun e w' => e = .returned (.bool (lg q)) ∧ Below w.heap.size w w' := by
 by_cases h : q < -70368744177664
 · have h0 : decide (q < -70368744177664) = true := decide_eq_true h
   clear h
   go_enter Try.func106, Try.ntmps106
   go_wp2
   go_ret
   exact ⟨by simp [lg, h0], Below.refl _ _⟩
 · have h0 : decide (q < -70368744177664) = false := decide_eq_false h
   clear h
   go_enter Try.func106, Try.ntmps106
   go_wp2
   go_ret
   exact ⟨by simp [lg, h0], Below.refl _ _⟩
theorem take_any {l : List Int} {j : Nat} {x : Int} (h : l[j]? = some x) (ha : (l.take j).any lg = false) (hx : lg x = false) : (l.take (j + 1)).any lg = false := by
 rw [List.take_add_one, h, List.any_append, ha]
 simp [hx]
theorem Oc {l : List Int} {j : Nat} {x : Int} (h : l[j]? = some x) (hx : lg x = true) : l.any lg = true :=
 List.any_eq_true.2 ⟨x, List.mem_of_getElem? h, hx⟩
theorem zB (A : Option Addr) (c : Nat) (l : List Int) (w : World) (hw : Rd w A l) (hlen : l.length ≤ 1000000) :
 Calls Try.prog 81 #[.slice A l.length c, .func (.func 106) #[] #[]] w fun e w' => ∃ x, e = .returned (I x) ∧ decide (x ≥ 0) = l.any lg ∧ Below w.heap.size w w' := by
 have HW := Lib.hid hw
 have HL := Lib.hid hlen
 clear hw hlen
 go_enter Try.func81, Try.ntmps81
 go_wp2_with fail
 go_loopw [8] (fun i wr => ∃ k : Nat, k ≤ l.length ∧ i = .int .i64 k ∧ Hid ((l.take k).any lg = false) ∧ Hid (Below w.heap.size w wr)) (fun i _ => l.length - (intOf i).toNat)
 case atStart => exact ⟨0, by omega, rfl, Lib.hid (by simp), Lib.hid (Below.refl _ _)⟩
 case round =>
  obtain ⟨k, hk, rfl, F, HB⟩ := hrel
  by_cases hkl : k = l.length
  · subst hkl
    go_wp2
    go_ret
    exact ⟨_, rfl, by have := F.out; rw [List.take_length] at this; rw [this]; rfl, HB.out⟩
  have hlt : (k : Int) < l.length := by omega
  have hk0 : (0 : Int) ≤ k := by omega
  have STEP : Hid (k + 1 ≤ l.length ∧ l.length - (k + 1) < l.length - k) := Lib.hid (by omega)
  have hw64 : IntKind.i64.wrap ((k : Int) + 1) = (k : Int) + 1 := by have := HL.out; simp [IntKind.wrap, IntKind.bits, IntKind.signed]; omega
  obtain ⟨b, off, rfl, hb, hc⟩ := (HW.out.below HB.out).cells (by omega)
  obtain ⟨x, hx⟩ : ∃ x, l[k]? = some x := ⟨l[k]'(by omega), List.getElem?_eq_getElem (by omega)⟩
  have c0 := hc k x hx
  have HX := Lib.hid hx
  clear hc hx hk hkl
  go_wp2_with fail
  refine (BL x _).mono ?_
  rintro e w2 ⟨rfl, hb2⟩
  have HB2 := Lib.hid (HB.out.trans (hb2.mono HB.out.size))
  clear hb2
  cases hq : lg x
  · have HQ := Lib.hid hq
    clear hq
    go_wp2
    go_roundw
    case rel => exact ⟨k + 1, STEP.out.1, by go_num, Lib.hid (take_any HX.out F.out HQ.out), HB2⟩
    case measure =>
     have h := STEP.out.2
     show l.length - ((k : Int) + 1).toNat < l.length - ((k : Int)).toNat
     rw [show ((k : Int) + 1).toNat = k + 1 by omega, show ((k : Int)).toNat = k by omega]
     exact h
  · have HQ := Lib.hid hq
    clear hq
    go_wp2
    go_ret
    exact ⟨_, rfl, by rw [Oc HX.out HQ.out]; simp, HB2.out⟩
theorem v_ (A : Option Addr) (c : Nat) (l : List Int) (w : World) (hw : Rd w A l) (hlen : l.length ≤ 1000000) :
 Calls Try.prog 55 #[.slice A l.length c, .func (.func 106) #[] #[]] w fun e w' => e = .returned (.bool (l.any lg)) ∧ Below w.heap.size w w' := by
 have H := Lib.hid (zB A c l w hw hlen)
 clear hw hlen
 go_enter Try.func55, Try.ntmps55
 go_wp2_with fail
 refine H.out.mono ?_
 rintro e w2 ⟨x, rfl, hx, hb⟩
 have HB := Lib.hid hb
 have HX := Lib.hid hx
 clear hb hx
 go_wp2
 go_ret
 exact ⟨by rw [← HX.out]; rfl, HB.out⟩
def gK (r c : Int) (l : List Int) : Bool := decide (r ≥ 1) && decide (r ≤ 8) && decide (c ≥ 1) && decide (c ≤ 8) && ((l.length : Int) == wrap64 (r * c)) && !l.any lg
theorem ig (r c : Int) (A : Option Addr) (cp : Nat) (l : List Int) (w : World) (hw : Rd w A l) :
 Calls Try.prog 75 #[.agg #[I r, I c, (.slice A l.length cp)]] w fun e w' => e = .returned (.bool (gK r c l)) ∧ Below w.heap.size w w' := by
 have N : Hid (aV w [(31, #[I r, I c, (.slice A l.length cp)])] (w.alloc (.cells #[I r, I c, (.slice A l.length cp)] 31))) := Lib.hid ((aV.none w).push (by simp) _ _)
 have HW := Lib.hid hw
 clear hw
 cases h0 : decide (r ≥ 1)
 · go_enter Try.func75, Try.ntmps75
   go_wp2
   go_ret
   exact ⟨by simp [gK, *], N.out.be⟩
 cases h1 : decide (r ≤ 8)
 · go_enter Try.func75, Try.ntmps75
   go_wp2
   go_ret
   exact ⟨by simp [gK, *], N.out.be⟩
 cases h2 : decide (c ≥ 1)
 · go_enter Try.func75, Try.ntmps75
   go_wp2
   go_ret
   exact ⟨by simp [gK, *], N.out.be⟩
 cases h3 : decide (c ≤ 8)
 · go_enter Try.func75, Try.ntmps75
   go_wp2
   go_ret
   exact ⟨by simp [gK, *], N.out.be⟩
 cases h4 : ((l.length : Int) == wrap64 (r * c))
 · go_enter Try.func75, Try.ntmps75
   go_wp2
   go_ret
   exact ⟨by simp [gK, *], N.out.be⟩
 have hlen : l.length ≤ 1000000 := by
  have a0 := of_decide_eq_true h0
  have a1 := of_decide_eq_true h1
  have a2 := of_decide_eq_true h2
  have a3 := of_decide_eq_true h3
  have a4 : (l.length : Int) = wrap64 (r * c) := by simpa using h4
  have b0 : 0 ≤ r * c := Int.mul_nonneg (by omega) (by omega)
  have b1 : r * c ≤ 8 * c := Int.mul_le_mul_of_nonneg_right (by omega) (by omega)
  unfold wrap64 at a4
  omega
 have H := Lib.hid (v_ A cp l _ (HW.out.below N.out.be) hlen)
 obtain ⟨b, hb⟩ : ∃ b, l.any lg = b := ⟨_, rfl⟩
 have HB := Lib.hid hb
 rw [hb] at H
 clear hb hlen
 go_enter Try.func75, Try.ntmps75
 go_wp2_with fail
 refine H.out.mono ?_
 rintro e w2 ⟨rfl, hb⟩
 have N2 := Lib.hid (N.out.below hb)
 clear hb
 go_wp2
 go_ret
 exact ⟨by simp [gK, HB.out, *], N2.out.be⟩
theorem Rd.flat {w : World} {ad : Addr} {l : List Int} (h : Rd w (some ad) l) : ∀ j u, (l.map I)[j]? = some u → w.cell? (ad.add j) = some u := by
 intro j u hj
 rw [List.getElem?_map] at hj
 cases hx : l[j]? with
 | none => rw [hx] at hj; cases hj
 | some x =>
   rw [hx] at hj
   injection hj with hj
   subst hj
   have hl : j < l.length := by
    rcases Nat.lt_or_ge j l.length with h | h
    · exact h
    · rw [List.getElem?_eq_none h] at hx; cases hx
   obtain ⟨b, off, e, _, hc⟩ := h.cells (by omega)
   injection e with e
   subst e
   have := hc j x hx
   unfold Addr.add
   by_cases h0 : j = 0
   · subst h0; simpa using this
   · rw [if_neg h0]; exact this
theorem z_ (A : Option Addr) (c : Nat) (l : List Int) (w : World) (hw : Rd w A l) (hlen : l.length ≤ 1000000) (hA : A = none → l.length = 0 ∧ c = 0) :
 Calls Try.prog 58 #[.slice A l.length c] w fun e w' => ∃ v, e = .returned v ∧ Own w' w.heap.size v l ∧ Below w.heap.size w w' := by
 cases A with
 | none =>
   obtain ⟨hl, rfl⟩ := hA rfl
   obtain rfl := List.eq_nil_of_length_eq_zero hl
   have he : ∀ w : World, (binOp .eql 29 (.slice none 0 0) (.slice none 0 0)).run Try.prog w = .ok (.bool true) w := fun _ => rfl
   go_enter Try.func58, Try.ntmps58
   go_wp2
   go_ret
   exact ⟨_, rfl, Own.nil _ _, Below.refl _ _⟩
 | some ad =>
   have HW := Lib.hid hw
   have HL := Lib.hid hlen
   clear hw hlen hA
   go_enter Try.func58, Try.ntmps58
   have he : ∀ w : World, (binOp .eql 29 (.slice (some ad) l.length c) (.slice none 0 0)).run Try.prog w = .ok (.bool false) w := fun _ => rfl
   obtain ⟨i0, hi0, hz0, hz1, hz2⟩ := info_parts BD
   go_wp2_with (at_builtin
                refine wpList_append_own_at _ rfl (.tmp 5) (.tmp 6) _ rfl w.heap.size 22 i0 _ 1 8 Try.underlying29 hi0 hz0 hz1 hz2 rfl (by omega) (.slice (some ⟨w.heap.size, 0, none⟩) 0 0) 0 [] rfl ?own ad l.length c (l.map I) rfl (by simp) ?news ?one ?h63 ?hby ?base ?_
                case own => exact ⟨rfl, .inr ⟨_, 0, #[], rfl, Nat.le_refl _, heap_alloc_new w _, Nat.le_refl _, by simp [maxLen], rfl, rfl⟩⟩
                case news => exact (HW.out.below ((Below.refl _ _).alloc (Nat.le_refl _) _)).flat
                case one => (intro u hu; simp at hu; obtain ⟨q, _, rfl⟩ := hu; rfl)
                case h63 => (have := HL.out; simp only [maxLen]; omega)
                case hby => (have := HL.out; omega)
                case base => simp
                intro v' w' hown hgrow hnil hat)
   go_ret
   exact ⟨v', rfl, Own.oJ (by simpa using hown), ((Below.refl _ _).alloc (Nat.le_refl _) _).grown hgrow (by simp) (by intro k hk; simp [Value.ownBlock] at hk; omega)⟩
def dW (l : List Int) : List Int := upto l.length (fun i k => if i = k then l.getD i 0 else 0) l.length
theorem Ik : Enters 83 := enters Try.func83 rfl rfl
theorem Bv (A : Option Addr) (cp g : Nat) (l : List Int) (w : World) (hl : l.length ≤ 8) (hA : Rd w A l) (R : Row w g 29 #[(.slice A l.length cp)]) :
 rO w 83 #[.pointer (some ⟨g, 0, none⟩)] l.length l.length (fun i k => if i = k then l.getD i 0 else 0) (fun _ _ => false) := by
 intro i k w' hi hk hb
 have R' := R.below hb R.lt
 have x := R'.cell
 show Calls Try.prog 83 #[I i, I k, .pointer (some ⟨g, 0, none⟩)] w' fun e w'' => e = .returned (.tuple #[I (if i = k then l.getD i 0 else 0), .bool false]) ∧ Below w'.heap.size w' w''
 by_cases h : i = k
 · subst h
   rw [if_pos rfl]
   obtain ⟨b, off, rfl, _, hc⟩ := (hA.below hb).cells (by omega)
   have c0 := hc i _ (dZ hi)
   obtain ⟨y, hy⟩ : ∃ y, l.getD i 0 = y := ⟨_, rfl⟩
   rw [hy] at c0 ⊢
   have e0 : ((i : Int) == (i : Int)) = true := by simp
   have i0 : (0 : Int) ≤ i := by omega
   have i1 : (i : Int) < l.length := by omega
   clear hb hc hy hA hi hk hl R R'
   go_enter Try.func83, Try.ntmps83
   go_wp2
   go_ret2
   exact ⟨rfl, Below.refl _ _⟩
 · rw [if_neg h]
   have e0 : ((i : Int) == (k : Int)) = false := by simp; omega
   clear hb hA hi hk hl R R' h
   go_enter Try.func83, Try.ntmps83
   go_wp2
   go_ret2
   exact ⟨rfl, Below.refl _ _⟩
theorem EF (l : List Int) (h1 : 1 ≤ l.length) (h8 : l.length ≤ 8) : gK 1 l.length l = !l.any lg := by
 have e : wrap64 (1 * (l.length : Int)) = l.length := by unfold wrap64; omega
 have e1 : decide ((l.length : Int) ≥ 1) = true := decide_eq_true (by omega)
 have e2 : decide ((l.length : Int) ≤ 8) = true := decide_eq_true (by omega)
 simp only [gK, e, e1, e2]
 simp
theorem sN (A : Option Addr) (cp : Nat) (l : List Int) (w : World) (hA : Rd w A l) (h1 : 1 ≤ l.length) (h8 : l.length ≤ 8) (ha : l.any lg = false) :
 Calls Try.prog 57 #[(.slice A l.length cp)] w fun e w' => ∃ v, e = .returned (.tuple #[.agg #[I l.length, I l.length, v], I 0]) ∧ Own w' w.heap.size v (dW l) ∧ Below w.heap.size w w' := by
 have N : Hid (aV w [(29, #[(.slice A l.length cp)]), (31, #[I 0, I 0, .slice none 0 0])] ((w.alloc (.cells #[(.slice A l.length cp)] 29)).alloc (.cells #[I 0, I 0, .slice none 0 0] 31))) := Lib.hid (((aV.none w).push (by simp) _ _).push (by simp) _ _)
 have e1 : decide ((l.length : Int) < 1) = false := decide_eq_false (by omega)
 have e2 : decide ((l.length : Int) > 8) = false := decide_eq_false (by omega)
 have H := Lib.hid (ig 1 l.length A cp l _ (hA.below N.out.be))
 rw [EF l (by omega) (by omega), ha] at H
 obtain ⟨L, hL⟩ : ∃ L, dW l = L := ⟨_, rfl⟩
 have HM := Lib.hid (fun w' (h : aV w [(29, #[(.slice A l.length cp)]), (31, #[I 0, I 0, .slice none 0 0])] w') => nS 83 #[.pointer (some ⟨w.heap.size, 0, none⟩)] l.length l.length _ _ w' L false hL (uh _ _) h8 h8 Ik (Bv A cp w.heap.size l w' h8 (hA.below h.be) h.r0))
 rw [hL]
 clear h1 h8 ha hA hL
 have hmf := hmf
 go_enter Try.func57, Try.ntmps57
 go_wp2_with fail
 refine H.out.mono ?_
 rintro e w2 ⟨rfl, hb⟩
 have N2 := Lib.hid (N.out.below hb)
 clear hb
 go_wp2_with fail
 refine (HM.out _ N2.out).mono ?_
 rintro e w5 ⟨A2, c2, rfl, ho, hb⟩
 have O := Lib.hid ho
 have N5 := Lib.hid (N2.out.below hb)
 have L4 := N2.out.r1.lt
 clear ho hb
 have x1 := N5.out.r1.cell
 have g1 := N5.out.r1.free
 have t1 := N5.out.r1.lt
 go_wp2
 refine bodyPost_ret (Du rfl rfl ((N5.out.r1.bz _ _ _).alloc _)) rfl ⟨_, rfl, ?_, (Below.bz N5.out.be (by omega) _ _ _).alloc (by have := N5.out.be.size; simp; omega) _⟩
 exact ((O.out.bz (by omega) _ _ _).alloc _).lower (by omega)
end Go.Proofs.Ytnijhjbcjeohhaa.KK

namespace Go.Proofs.Ytnijhjbcjeohhaa.KK
open Go.RowKit Go.Proofs.af.aF Go.Proofs.af.aP Go.Proofs.af.aQ
set_option linter.unusedVariables false
set_option linter.unusedSimpArgs false
theorem lK (r c : Nat) (l : List Int) : (qJ r c l).length = c * r := upto_length
def xx (n : Nat) (l : List Int) : List Int := gW jS n n l (qJ n n l)
theorem Fp (n : Nat) (A : Option Addr) (cp : Nat) (l : List Int) (w : World) (hn : n ≤ 8) (hl : l.length = n * n) (hA : Rd w A l) (hcp : l.length ≤ cp) :
 Calls Try.prog 116 #[.agg #[I n, I n, .slice A l.length cp]] w fun e w' => ∃ v, e = .returned (.tuple #[.agg #[I n, I n, v], .bool (iK jS n n l (qJ n n l)), I 0]) ∧ Own w' w.heap.size v (xx n l) ∧ Below w.heap.size w w' := by
 have N : Hid (aV w [(31, #[I n, I n, .slice A l.length cp]), (31, #[I 0, I 0, .slice none 0 0])] ((w.alloc (.cells #[I n, I n, .slice A l.length cp] 31)).alloc (.cells #[I 0, I 0, .slice none 0 0] 31))) := Lib.hid (((aV.none w).push (by simp) _ _).push (by simp) _ _)
 have HA := Lib.hid hA
 have HT := Lib.hid (fun w' h => jF n n A cp l w' hn hn hl h)
 have HE := Lib.hid (fun A' cp' w' h h' hc => Fq n n A A' cp cp' l (qJ n n l) w' hn hn hl (lK n n l) h h' hcp hc)
 obtain ⟨T, hT⟩ : ∃ T, qJ n n l = T := ⟨_, rfl⟩
 rw [hT] at HT HE
 unfold xx
 rw [hT]
 obtain ⟨L, hL⟩ : ∃ L, gW jS n n l T = L := ⟨_, rfl⟩
 obtain ⟨b, hb⟩ : ∃ b, iK jS n n l T = b := ⟨_, rfl⟩
 rw [hL, hb] at HE
 rw [hL, hb]
 have KK : Hid (∀ w', aV w [(31, #[I n, I n, .slice A l.length cp]), (31, #[I 0, I 0, .slice none 0 0])] w' → ∀ o, w'.cell? ⟨w.heap.size, o, none⟩ = #[I n, I n, .slice A l.length cp][o]?) := Lib.hid (fun w' h => h.r0.cell)
 clear hn hl hA hcp hT hL hb
 have y0 := N.out.r0.cell
 go_enter Try.func116, Try.ntmps116
 go_wp2_with fail
 go_region_held3 (fun w' => ∀ o, w'.cell? ⟨w.heap.size, o, none⟩ = #[I n, I n, .slice A l.length cp][o]?)
  (first | with_reducible exact KK.out _ N3.out | with_reducible exact KK.out _ N2.out | with_reducible exact KK.out _ N.out.drew | exact (Row.mF N3.out.r0 (C := w.heap.size + 1) (by simp)).cell)
  (first
    | (go_at_call 115
       refine (HE.out _ _ _ (HA.out.below N2.out.be) RT.out CT.out).mono ?_
       rintro e w3 ⟨A3, c3, rfl, ho, hb⟩
       have O := Lib.hid ho
       have N3 := Lib.hid (N2.out.below hb)
       have L3 := N2.out.r1.lt
       have x1 := N3.out.r1.cell
       have g1 := N3.out.r1.free
       clear hb ho)
    | (go_at_call 77
       refine (HT.out _ (HA.out.below N.out.drew.be)).mono ?_
       rintro e w2 ⟨v, rfl, ho, hb⟩
       obtain ⟨A2, c2, rfl, ht, rt⟩ := ho.reads
       have RT := Lib.hid rt
       have CT := Lib.hid ht
       have N2 := Lib.hid (N.out.drew.below hb)
       clear hb ho rt ht))
 all_goals
  go_wp2
  refine bodyPost_ret (oD rfl rfl (N3.out.r1.bz _ _ _)) rfl ⟨_, rfl, ?_, Below.bz N3.out.be (by omega) _ _ _⟩
  exact (O.out.bz (by omega) _ _ _).lower (by omega)
end Go.Proofs.Ytnijhjbcjeohhaa.KK

namespace Go.Proofs.Ytnijhjbcjeohhaa.KK
open Go.RowKit Go.Proofs.af.aF Go.Proofs.af.aP Go.Proofs.af.aQ
set_option linter.unusedVariables false
set_option linter.unusedSimpArgs false
def qw : List Value → Nat → List Value → List Value
 | l, _, [] => l
 | l, o, v :: vs => qw (l.set o v) (o + 1) vs
theorem Row.setCells {B : Nat} {t : TypeId} : ∀ (vs : List Value) (o : Nat) (w : World) (arr : Array Value), Row w B t arr → ∃ FV, Row (w.setCells B o vs) B t FV ∧ FV.toList = qw arr.toList o vs := by
 intro vs
 induction vs with
 | nil => intro o w arr h; exact ⟨arr, h, rfl⟩
 | cons v vs ih =>
   intro o w arr h
   obtain ⟨FV, h1, h2⟩ := ih (o + 1) _ _ (h.set o v)
   refine ⟨FV, h1, ?_⟩
   rw [h2]
   simp [qw]
theorem b_ {B n : Nat} {w0 : World} : ∀ (vs : List Value) (o : Nat) (w : World), Below n w0 w → n ≤ B → Below n w0 (w.setCells B o vs) := by
 intro vs
 induction vs with
 | nil => intro o w h _; exact h
 | cons v vs ih => intro o w h hB; exact ih (o + 1) _ (h.setCell (p := ⟨B, o, none⟩) hB v) hB
theorem Gx (a b : Value) : ∀ (k j m : Nat), k ≤ m → qw (List.replicate j a ++ List.replicate m b) j (List.replicate k a) = List.replicate (j + k) a ++ List.replicate (m - k) b := by
 intro k
 induction k with
 | zero => intro j m _; simp [qw]
 | succ k ih =>
   intro j m h
   obtain ⟨m', rfl⟩ : ∃ m', m = m' + 1 := ⟨m - 1, by omega⟩
   show qw ((List.replicate j a ++ List.replicate (m' + 1) b).set j a) (j + 1) (List.replicate k a) = _
   have e : (List.replicate j a ++ List.replicate (m' + 1) b).set j a = List.replicate (j + 1) a ++ List.replicate m' b := by
    rw [List.set_append_right _ _ (by simp)]
    rw [List.length_replicate, Nat.sub_self, List.replicate_succ, List.set_cons_zero, show j + 1 = j + 1 from rfl, List.replicate_succ' (n := j), List.append_assoc]
    rfl
   rw [e, ih (j + 1) m' (by omega), show j + 1 + k = j + (k + 1) by omega, show m' - k = m' + 1 - (k + 1) by omega]
def Rep (w : World) (B n : Nat) (q : Int) (j : Nat) : Prop := ∃ arr, Row w B 22 arr ∧ arr.toList = List.replicate j (I q) ++ List.replicate (n - j) (I 0)
theorem Rep.cell {w : World} {B n : Nat} {q : Int} {j : Nat} (h : Rep w B n q j) {x : Nat} (hx : x < j) : w.cell? ⟨B, x, none⟩ = some (I q) := by
 obtain ⟨arr, hr, ha⟩ := h
 rw [hr.cell x, ← Array.getElem?_toList, ha, List.getElem?_append_left (by simpa using hx)]
 simp [hx]
theorem Rep.some {w : World} {B n : Nat} {q : Int} {j : Nat} (h : Rep w B n q j) {x : Nat} (hx : x < n) (hj : j ≤ n) : (w.cell? ⟨B, x, none⟩).isSome = true := by
 obtain ⟨arr, hr, ha⟩ := h
 have hs : arr.size = n := by rw [← Array.length_toList, ha]; simp; omega
 rw [hr.cell x, Array.getElem?_eq_getElem (by omega)]
 rfl
theorem Rep.free {w : World} {B n : Nat} {q : Int} {j : Nat} (h : Rep w B n q j) (x : Nat) : w.frozen? ⟨B, x, none⟩ = false := by
 obtain ⟨arr, hr, _⟩ := h
 exact hr.free x
theorem Rep.put {w : World} {B n : Nat} {q : Int} {j k : Nat} (h : Rep w B n q j) (hk : j + k ≤ n) : Rep (w.setCells B j (List.replicate k (I q))) B n q (j + k) := by
 obtain ⟨arr, hr, ha⟩ := h
 obtain ⟨FV, h1, h2⟩ := hr.setCells (List.replicate k (I q)) j
 exact ⟨FV, h1, by rw [h2, ha, Gx _ _ _ _ _ (by omega), show n - j - k = n - (j + k) by omega]⟩
theorem Rep.drew {w : World} {B n : Nat} {q : Int} {j : Nat} (h : Rep w B n q j) : Rep w.drew B n q j := h
theorem Rep.own {w : World} {B n base : Nat} {q : Int} (h : Rep w B n q n) (hb : base ≤ B) (hn : n ≤ 1000000) : Own w base (.slice (Option.some ⟨B, 0, none⟩) n n) (List.replicate n q) := by
 obtain ⟨arr, hr, ha⟩ := h
 have hs : arr.size = n := by rw [← Array.length_toList, ha]; simp
 have hl : (List.replicate n q).length = n := by simp
 refine Own.oJ ⟨by rw [hl]; simp, .inr ⟨B, n, arr, by rw [hl], hb, hr, by rw [hl]; omega, by simp only [maxLen]; omega, by rw [hs]; omega, ?_⟩⟩
 rw [hl, Nat.mul_one, ha, Nat.sub_self]
 simp
theorem zZ (w : World) (ty : TypeId) (B j dLen dCap b sLen sCap k : Nat) (q : Int) (hk : k = Nat.min sLen dLen)
 (hsrc : ∀ x, x < k → w.cell? ⟨b, x, none⟩ = some (I q)) (hc : ∀ x, x < k → (w.cell? ⟨B, j + x, none⟩).isSome = true) (hf : ∀ x, w.frozen? ⟨B, x, none⟩ = false) :
 (Builtin.copy_ #[29, 29] ty #[.slice (some ⟨B, j, none⟩) dLen dCap, .slice (some ⟨b, 0, none⟩) sLen sCap]).run Try.prog w = .ok (I k) (w.setCells B j (List.replicate k (I q))) := by
 have h := run_copy_cells (P := Try.prog) w 29 29 ty 22 B j dLen dCap ⟨b, 0, none⟩ sLen sCap (List.replicate k (I q)) Try.underlying29 (by kernel_rfl) (by simpa using hk)
  (fun x v hx => by
    rw [List.getElem?_replicate] at hx
    split at hx
    · injection hx with hx
      subst hx
      have := hsrc x (by assumption)
      unfold Addr.add
      by_cases h0 : x = 0
      · subst h0; simpa using this
      · rw [if_neg h0]; simpa using this
    · cases hx)
  (fun x hx => hc x (by simpa using hx)) (fun x hx => hf _) (fun v hv => by rw [List.eq_of_mem_replicate hv]; rfl)
 simpa [goInt] using h
theorem Ez (w : World) {ops : Array Oper} {o : Oper} {a : Act} {K : Act → World → Prop} {Q : Exit → Act → World → Prop} {E : Prop} (hg : o.guard = none) (d s : Operand)
 (hop : o.op = .call { callee := .builtin .copy, args := #[d, s], argTypes := #[29, 29] })
 (B j dLen dCap b sLen sCap k : Nat) (q : Int) (hd : a.eval d = .slice (some ⟨B, j, none⟩) dLen dCap) (hs : a.eval s = .slice (some ⟨b, 0, none⟩) sLen sCap) (hk : k = Nat.min sLen dLen)
 (hsrc : ∀ x, x < k → w.cell? ⟨b, x, none⟩ = some (I q)) (hc : ∀ x, x < k → (w.cell? ⟨B, j + x, none⟩).isSome = true) (hf : ∀ x, w.frozen? ⟨B, x, none⟩ = false)
 (hK : K (a.put o.dst (I k)) (w.setCells B j (List.replicate k (I q)))) :
 if Region.wanted o (yielded ops a.tmps) = true then Oper.wp Try.prog o a w K Q else E := by
 have hw : Region.wanted o (yielded ops a.tmps) = true := by simp [Region.wanted, hg]
 rw [if_pos hw]
 have hrun := zZ w o.type B j dLen dCap b sLen sCap k q hk hsrc hc hf
 unfold Oper.wp execOp
 simp only [hop, resolve, invoke, builtin, Sem.run_bind, Sem.run_pure, Result.andThen_ok, List.map_toArray, List.map_cons, List.map_nil, hd, hs, hrun]
 exact hK
theorem xm (w : World) (n : Nat) (hn : n ≤ 1000000) : (Instr.makeSlice 29 (.int .i64 n) (.int .i64 n)).run Try.prog w = .ok (.slice (some ⟨w.heap.size, 0, none⟩) n n) (w.alloc (.cells (madeCells #[I 0] n) 22)) := by
 obtain ⟨i0, hi0, hz0, hz1, hz2⟩ := info_parts BD
 have := run_make (P := Try.prog) w 29 22 i0 (I 0) Try.underlying29 hi0 hz0 .i64 .i64 n n (by omega) (Int.le_refl _) (by rw [hz2]; omega) (by omega)
 rw [hz1] at this
 simpa [Value.cells] using this
theorem EU (n : Nat) : (madeCells #[I 0] n).toList = List.replicate n (I 0) := by
 unfold madeCells
 apply List.ext_getElem
 · simp
 · intro i h1 h2
   simp at h1 ⊢
   rw [Nat.mod_one]
   rfl
theorem yh (b n : Nat) (q : Int) (w : World) (hb : w.cell? ⟨b, 0, none⟩ = some (I q)) (h1 : 1 ≤ n) (h8 : n ≤ 8) :
 Calls Try.prog 130 #[.slice (some ⟨b, 0, none⟩) 1 1, I n] w fun e w' => ∃ A c, e = .returned (.slice A n c) ∧ Own w' w.heap.size (.slice A n c) (List.replicate n q) ∧ Below w.heap.size w w' := by
 have hm : PQ.bits_Mul.f 1 (n : Int) = some ((0 : Int), (n : Int)) := by
  rcases (show n = 1 ∨ n = 2 ∨ n = 3 ∨ n = 4 ∨ n = 5 ∨ n = 6 ∨ n = 7 ∨ n = 8 by omega) with h | h | h | h | h | h | h | h <;> subst h <;> decide +kernel
 have HM := Lib.hid (fun w => PQ.bits_Mul.calls 1 n 0 n w hm)
 have e0 : decide ((n : Int) < 0) = false := decide_eq_false (by omega)
 have e1 : decide ((n : Int) > 9223372036854775807) = false := decide_eq_false (by omega)
 have e2 : IntKind.u64.wrap (n : Int) = n := by simp [IntKind.wrap, IntKind.bits, IntKind.signed]; omega
 have e3 : IntKind.i64.wrap (n : Int) = n := by simp [IntKind.wrap, IntKind.bits, IntKind.signed]; omega
 have H1 := Lib.hid h1
 have H8 := Lib.hid h8
 have HB := Lib.hid hb
 clear hm h1 h8 hb
 go_enter Try.func130, Try.ntmps130
 go_wp2_with fail
 refine (HM.out _).mono ?_
 rintro e w2 ⟨rfl, hd⟩
 have D2 := Lib.hid hd.below
 clear hd
 have hz := xm w2 n (by have := H8.out; omega)
 have R0 : Hid (Rep (w2.alloc (.cells (madeCells #[I 0] n) 22)) w2.heap.size n q 0) := Lib.hid ⟨_, Row.new _ _ _, by rw [EU]; simp⟩
 have B2 : Hid (Below w.heap.size w (w2.alloc (.cells (madeCells #[I 0] n) 22))) := Lib.hid (D2.out.alloc D2.out.size _)
 have S2 : Hid (w.heap.size ≤ w2.heap.size) := Lib.hid D2.out.size
 have hb2 : Hid ((w2.alloc (.cells (madeCells #[I 0] n) 22)).cell? ⟨b, 0, none⟩ = some (I q)) := Lib.hid ((B2.out.cell (p := ⟨b, 0, none⟩) (cell_lt HB.out)).trans HB.out)
 have hx0 : ∀ x, x < 1 → (w2.alloc (.cells (madeCells #[I 0] n) 22)).cell? ⟨b, x, none⟩ = some (I q) := by
  intro x hx
  have : x = 0 := by omega
  subst this
  exact hb2.out
 have hx1 : ∀ x, x < 1 → ((w2.alloc (.cells (madeCells #[I 0] n) 22)).cell? ⟨w2.heap.size, 0 + x, none⟩).isSome = true := by
  intro x hx
  have := H1.out
  exact R0.out.some (by omega) (by omega)
 have hx2 : 1 = Nat.min 1 n := (Nat.min_eq_left H1.out).symm
 have hcp := zZ (w2.alloc (.cells (madeCells #[I 0] n) 22)) 3 w2.heap.size 0 n n b 1 1 1 q hx2 hx0 hx1 R0.out.free
 clear hx0 hx1 hx2
 have R1 := Lib.hid (R0.out.put (k := 1) (by have := H1.out; omega))
 have B3 := Lib.hid (b_ (B := w2.heap.size) (List.replicate 1 (I q)) 0 _ B2.out S2.out)
 obtain ⟨w3, hw3⟩ : ∃ w3, (w2.alloc (.cells (madeCells #[I 0] n) 22)).setCells w2.heap.size 0 (List.replicate 1 (I q)) = w3 := ⟨_, rfl⟩
 rw [hw3] at hcp R1 B3
 clear hw3
 go_wp2_with fail
 clear hcp hz R0 B2 hb2 D2
 go_loopw [8] (fun jj wr => ∃ j : Nat, 1 ≤ j ∧ j ≤ n ∧ jj = .int .i64 j ∧ Hid (Rep wr w2.heap.size n q j) ∧ Hid (Below w.heap.size w wr)) (fun jj _ => n - (intOf jj).toNat)
 case atStart => exact ⟨1, by omega, H1.out, rfl, by simpa using R1, B3⟩
 case round =>
  clear R1 B3
  obtain ⟨j, h1, hj, rfl, R, HB⟩ := hrel
  by_cases hjn : j = n
  · subst hjn
    go_wp2
    go_ret
    exact ⟨_, _, rfl, R.out.own S2.out (by have := H8.out; omega), HB.out⟩
  have hlt : (j : Int) < n := by omega
  have hj0 : (0 : Int) ≤ j := by omega
  have hjle : (j : Int) ≤ n := by omega
  have hne : ¬ n = j := by omega
  obtain ⟨k, hk⟩ : ∃ k, Nat.min j (n - j) = k := ⟨_, rfl⟩
  have hk2 : k ≤ j ∧ k ≤ n - j ∧ 1 ≤ k := by subst hk; exact ⟨Nat.min_le_left _ _, Nat.min_le_right _ _, Nat.le_min.2 ⟨h1, by omega⟩⟩
  have STEP : Hid (1 ≤ j + k ∧ j + k ≤ n ∧ n - (j + k) < n - j) := Lib.hid (by omega)
  have hw64 : IntKind.i64.wrap ((j : Int) + k) = ((j + k : Nat) : Int) := by have := H8.out; simp [IntKind.wrap, IntKind.bits, IntKind.signed]; omega
  have HK := Lib.hid hk
  have OU := Lib.hid hk2
  have HJ := Lib.hid (show 1 ≤ j ∧ j < n by omega)
  clear hk hk2 h1 hj hjn
  have hq0 : ∀ x, x < k → wr.drew.cell? ⟨w2.heap.size, x, none⟩ = some (I q) := fun x hx => R.out.drew.cell (by have := OU.out; omega)
  have hq1 : ∀ x, x < k → (wr.drew.cell? ⟨w2.heap.size, j + x, none⟩).isSome = true := fun x hx => R.out.drew.some (by have := OU.out; have := HJ.out; omega) (by have := HJ.out; omega)
  have Q0 := Lib.hid hq0
  have Q1 := Lib.hid hq1
  clear hq0 hq1
  go_wp2_with fail
  go_region_held3 (fun w' => True)
   (first | trivial)
   (first
     | (refine Ez _ rfl (.tmp 41) (.tmp 44) rfl w2.heap.size j (n - j) (n - j) w2.heap.size j n k q rfl rfl HK.out.symm Q0.out Q1.out R.out.drew.free ?_
        have R2 := Lib.hid (R.out.drew.put (k := k) (by have := STEP.out; omega))
        have HB2 := Lib.hid (b_ (B := w2.heap.size) (List.replicate k (I q)) j _ HB.out.drew S2.out)
        generalize wr.drew.setCells w2.heap.size j (List.replicate k (I q)) = w4 at R2 HB2 ⊢))
  all_goals
   go_wp2
   go_roundw
   case rel => exact ⟨j + k, STEP.out.1, STEP.out.2.1, by go_num, R2, HB2⟩
   case measure =>
    have h := STEP.out.2.2
    show n - ((j + k : Nat) : Int).toNat < n - ((j : Int)).toNat
    rw [Int.toNat_natCast, Int.toNat_natCast]
    exact h
def kG (n : Nat) : List Int := dW (List.replicate n 16777216)
theorem Fg (n : Nat) (w : World) (h1 : 1 ≤ n) (h8 : n ≤ 8) :
 Calls Try.prog 126 #[I n] w fun e w' => ∃ v, e = .returned (.tuple #[.agg #[I n, I n, v], I 0]) ∧ Own w' w.heap.size v (kG n) ∧ Below w.heap.size w w' := by
 have N : Hid (aV w [(31, #[I 0, I 0, .slice none 0 0]), (22, #[I 16777216])] ((w.alloc (.cells #[I 0, I 0, .slice none 0 0] 31)).alloc (.cells #[I 16777216] 22))) := Lib.hid (((aV.none w).push (by simp) _ _).push (by simp) _ _)
 have e1 : decide ((n : Int) < 1) = false := decide_eq_false (by omega)
 have e2 : decide ((n : Int) > 8) = false := decide_eq_false (by omega)
 have HR := Lib.hid (yh (w.heap.size + 1) n 16777216 _ (N.out.r1.cell 0) h1 h8)
 have hany : (List.replicate n (16777216 : Int)).any lg = false := by
  rw [List.any_eq_false]
  intro x hx
  rw [List.eq_of_mem_replicate hx]
  decide
 have hlen : (List.replicate n (16777216 : Int)).length = n := by simp
 have HD := Lib.hid (fun A c w' h => sN A c (List.replicate n 16777216) w' h (by rw [hlen]; exact h1) (by rw [hlen]; exact h8) hany)
 obtain ⟨L, hL⟩ : ∃ L, kG n = L := ⟨_, rfl⟩
 rw [hL]
 unfold kG at hL
 rw [hlen, hL] at HD
 clear h1 h8 hany hlen hL
 go_enter Try.func126, Try.ntmps126
 go_wp2_with fail
 refine HR.out.mono ?_
 rintro e w2 ⟨A, c, rfl, ho, hb⟩
 have N2 := Lib.hid (N.out.below hb)
 obtain ⟨A', c', he, _, hr⟩ := ho.reads
 injection he with e1 e2 e3
 subst e1 e3
 have HR2 := Lib.hid hr
 clear hb ho hr e2 HR
 go_wp2_with fail
 refine (HD.out _ _ _ HR2.out).mono ?_
 rintro e w3 ⟨v, rfl, ho, hb⟩
 obtain ⟨A3, c3, rfl, _, _⟩ := ho.reads
 have O := Lib.hid ho
 have N3 := Lib.hid (N2.out.below hb)
 have L2 := N2.out.r1.lt
 clear hb ho
 have x0 := N3.out.r0.cell
 have g0 := N3.out.r0.free
 have t0 := N3.out.r0.lt
 go_wp2
 refine bodyPost_ret (Du rfl rfl (N3.out.r0.bz _ _ _)) rfl ⟨_, rfl, ?_, Below.bz N3.out.be (by omega) _ _ _⟩
 exact (O.out.bz (by omega) _ _ _).lower (by omega)
end Go.Proofs.Ytnijhjbcjeohhaa.KK

namespace Go.Proofs.Ytnijhjbcjeohhaa.PQ
open Go.RowKit Go.Proofs.af.aF Go.Proofs.af.aP Go.Proofs.af.aQ Go.Proofs.Ytnijhjbcjeohhaa.KK
set_option linter.unusedVariables false
set_option linter.unusedSimpArgs false
theorem GY {a b : Int} {n : Nat} (ha : 0 ≤ a) (hb : 0 ≤ b) (h : (n : Int) = a * b) : n = a.toNat * b.toNat := by
 obtain ⟨x, rfl⟩ := Int.eq_ofNat_of_zero_le ha
 obtain ⟨y, rfl⟩ := Int.eq_ofNat_of_zero_le hb
 simp only [Int.toNat_natCast]
 exact_mod_cast h
theorem toInt {a : Int} (ha : 0 ≤ a) : ((a.toNat : Nat) : Int) = a := by omega
def iE.f (bP : Int) (bZ : Int) (bF : List Int) : Option (Int × Int × List Int) := if 0 ≤ bP ∧ bP ≤ 8 ∧ 0 ≤ bZ ∧ bZ ≤ 8 ∧ (bF.length : Int) = bP * bZ then some (bZ, bP, qJ bP.toNat bZ.toNat bF) else none
theorem iE.calls (bP : Int) (bZ : Int) (dN : Option Addr) (dM : Nat) (bF : List Int) (r1 : Int) (r2 : Int) (r3 : List Int) (w : World) (kN : Kd.C (Kd.int .i64) w dN bF.length bF) (lZ : bF.length ≤ dM) (h : iE.f bP bZ bF = some (r1, r2, r3)) :
 Calls Try.prog 77 #[.agg #[.int .i64 bP, .int .i64 bZ, .slice dN bF.length dM]] w fun e w' => ∃ yS : Value, e = .returned (.agg #[.int .i64 r1, .int .i64 r2, yS]) ∧ Kd.R (Kd.int .i64) 22 w' w.heap.size (fun _ => True) yS r3 ∧ Below w.heap.size w w' := by
 unfold iE.f at h
 split at h
 · rename_i hs
   obtain ⟨s0, s1, s2, s3, s4⟩ := hs
   simp only [Option.some.injEq, Prod.mk.injEq] at h
   obtain ⟨rfl, rfl, rfl⟩ := h
   have := jF bP.toNat bZ.toNat dN dM bF w (by omega) (by omega) (GY s0 s2 s4) kN
   rw [toInt s0, toInt s2] at this
   exact this
 · cases h
def gz.f (bP : Int) (bZ : Int) (bF : List Int) (bJ : Int) (bM : Int) (bD : List Int) : Option (Int × Int × List Int × Bool × Int) :=
 if bZ = bJ then (if (0 ≤ bP ∧ bP ≤ 8 ∧ 0 ≤ bZ ∧ bZ ≤ 8 ∧ (bF.length : Int) = bP * bZ) ∧ (0 ≤ bJ ∧ bJ ≤ 8 ∧ 0 ≤ bM ∧ bM ≤ 8 ∧ (bD.length : Int) = bJ * bM) then some (bP, bM, mulL bP.toNat bZ.toNat bM.toNat bF bD, nR bP.toNat bZ.toNat bM.toNat bF bD, 0) else none) else some (0, 0, [], false, 9)
theorem gz.calls (bP : Int) (bZ : Int) (dN : Option Addr) (dM : Nat) (bF : List Int) (bJ : Int) (bM : Int) (fA : Option Addr) (fF : Nat) (bD : List Int) (r1 : Int) (r2 : Int) (r3 : List Int) (r4 : Bool) (r5 : Int) (w : World) (kN : Kd.C (Kd.int .i64) w dN bF.length bF) (lZ : bF.length ≤ dM) (nC : Kd.C (Kd.int .i64) w fA bD.length bD) (n_ : bD.length ≤ fF) (h : gz.f bP bZ bF bJ bM bD = some (r1, r2, r3, r4, r5)) :
 Calls Try.prog 101 #[.agg #[.int .i64 bP, .int .i64 bZ, .slice dN bF.length dM], .agg #[.int .i64 bJ, .int .i64 bM, .slice fA bD.length fF]] w fun e w' => ∃ yS : Value, e = .returned (.tuple #[.agg #[.int .i64 r1, .int .i64 r2, yS], .bool r4, .int .i64 r5]) ∧ Kd.R (Kd.int .i64) 22 w' w.heap.size (fun _ => True) yS r3 ∧ Below w.heap.size w w' := by
 unfold gz.f at h
 split at h
 · rename_i he
   subst he
   split at h
   · rename_i hs
     obtain ⟨⟨s0, s1, s2, s3, s4⟩, t0, t1, t2, t3, t4⟩ := hs
     simp only [Option.some.injEq, Prod.mk.injEq] at h
     obtain ⟨rfl, rfl, rfl, rfl, rfl⟩ := h
     have := qV bP.toNat bZ.toNat bM.toNat dN fA dM fF bF bD w (by omega) (by omega) (by omega) (GY s0 s2 s4) (GY t0 t2 t4) kN nC
     rw [toInt s0, toInt s2, toInt t2] at this
     exact this
   · cases h
 · rename_i he
   simp only [Option.some.injEq, Prod.mk.injEq] at h
   obtain ⟨rfl, rfl, rfl, rfl, rfl⟩ := h
   refine (zo bP bZ bJ bM dN fA dM fF bF bD w he).mono ?_
   rintro e w' ⟨rfl, hb⟩
   exact ⟨_, rfl, Own.nil _ _, hb⟩
def lS.f (bP : Int) (bZ : Int) (bF : List Int) : Option (Int × Int × List Int × Bool × Int) := if bP = bZ ∧ 0 ≤ bP ∧ bP ≤ 8 ∧ 0 ≤ bZ ∧ bZ ≤ 8 ∧ (bF.length : Int) = bP * bZ then some (bP, bZ, xx bP.toNat bF, iK jS bP.toNat bP.toNat bF (qJ bP.toNat bP.toNat bF), 0) else none
theorem lS.calls (bP : Int) (bZ : Int) (dN : Option Addr) (dM : Nat) (bF : List Int) (r1 : Int) (r2 : Int) (r3 : List Int) (r4 : Bool) (r5 : Int) (w : World) (kN : Kd.C (Kd.int .i64) w dN bF.length bF) (lZ : bF.length ≤ dM) (h : lS.f bP bZ bF = some (r1, r2, r3, r4, r5)) :
 Calls Try.prog 116 #[.agg #[.int .i64 bP, .int .i64 bZ, .slice dN bF.length dM]] w fun e w' => ∃ yS : Value, e = .returned (.tuple #[.agg #[.int .i64 r1, .int .i64 r2, yS], .bool r4, .int .i64 r5]) ∧ Kd.R (Kd.int .i64) 22 w' w.heap.size (fun _ => True) yS r3 ∧ Below w.heap.size w w' := by
 unfold lS.f at h
 split at h
 · rename_i hs
   obtain ⟨rfl, s0, s1, s2, s3, s4⟩ := hs
   simp only [Option.some.injEq, Prod.mk.injEq] at h
   obtain ⟨rfl, rfl, rfl, rfl, rfl⟩ := h
   have := Fp bP.toNat dN dM bF w (by omega) (GY s0 s2 s4) kN lZ
   rw [toInt s0] at this
   exact this
 · cases h
end Go.Proofs.Ytnijhjbcjeohhaa.PQ

namespace Go.Proofs.Ytnijhjbcjeohhaa.PR
open Go.RowKit Go.Proofs.Ytnijhjbcjeohhaa.PQ Go.Proofs.af.aF Go.Proofs.af.aP Go.Proofs.af.aQ
attribute [local go_sem] fU fP iJ iI eG eF fQ fO
set_option linter.unusedVariables false
set_option linter.unusedSimpArgs false
def H_ : Option Int → Value
 | none => .nilIface
 | some c => .iface 0 (.int .i64 c)
theorem aN : H_ none = .nilIface := rfl
theorem aK (c : Int) : H_ (some c) = .iface 0 (.int .i64 c) := rfl
end Go.Proofs.Ytnijhjbcjeohhaa.PR

namespace Go.Proofs.Ytnijhjbcjeohhaa.PR
open Go.RowKit Go.Proofs.Ytnijhjbcjeohhaa.PQ Go.Proofs.af.aF Go.Proofs.af.aP Go.Proofs.af.aQ
attribute [local go_sem] fU fP iJ iI eG eF fQ fO
set_option linter.unusedVariables false
set_option linter.unusedSimpArgs false
def ay (w0 W : World) (g : Nat) (f0 : Bool) : Prop := W.heap[g]? = some (.cells #[.bool f0] 158 (0, 0)) ∧ w0.heap.size ≤ g
theorem ay.grown {w0 W : World} {g : Nat} {f0 : Bool} {W1 : World} {row : Option Nat} (h : ay w0 W g f0) (hw : W.grownBy W1 row) (hne : some g ≠ row) : ay w0 W1 g f0 := by
 obtain ⟨hb, hg⟩ := h
 exact ⟨FU hb hw hne, hg⟩
theorem ay.below {w0 W : World} {g : Nat} {f0 : Bool} {W1 : World} (h : ay w0 W g f0) (hw : Below W.heap.size W W1) : ay w0 W1 g f0 := h.grown (dI hw none) (by simp)
theorem ay.alloc {w0 W : World} {g : Nat} {f0 : Bool} (h : ay w0 W g f0) (o : Obj) : ay w0 (W.alloc o) g f0 := h.below (ak (Below.refl _ _) o)
theorem ay.drewN {w0 W : World} {g : Nat} {f0 : Bool} (h : ay w0 W g f0) (m : Nat) : ay w0 (W.drewN m) g f0 := h
theorem ay.drew {w0 W : World} {g : Nat} {f0 : Bool} (h : ay w0 W g f0) : ay w0 W.drew g f0 := h
theorem ay.apart {w0 W : World} {g : Nat} {f0 : Bool} {α : Type} {d : Kd α} {e : Nat} {base : Nat} {ok : Nat → Prop} {v : Value} {xs : List α} (h : ay w0 W g f0) (ho : d.R e W base ok v xs) (ht : ∀ q, q ∈ e :: d.E → q ≠ 158) : d.R e W base (fun k => ok k ∧ k ≠ g) v xs := by
 obtain ⟨hb, hg⟩ := h
 exact Kd.pO ho hb ht
theorem ay.lt {w0 W : World} {g : Nat} {f0 : Bool} (h : ay w0 W g f0) : g < W.heap.size := by
 obtain ⟨hb, hg⟩ := h
 exact dU hb
theorem ay.ge {w0 W : World} {g : Nat} {f0 : Bool} (h : ay w0 W g f0) : w0.heap.size ≤ g := by
 obtain ⟨hb, hg⟩ := h
 exact hg
theorem ay.far {w0 W : World} {g : Nat} {f0 : Bool} {p : Addr} (h : ay w0 W g f0) (hne : g ≠ p.block) (u : Value) : ay w0 (W.setCell p u) g f0 := by
 obtain ⟨hb, hg⟩ := h
 exact ⟨jA hb hne u, hg⟩
theorem wo {W : World} {g : Nat} {f0 : Bool} (h : W.heap[g]? = some (.cells #[.bool f0] 158 (0, 0))) : W.cell? ⟨g, 0, none⟩ = some (.bool f0) := (aA h 0).trans rfl
theorem ay.fM {w0 W : World} {g : Nat} {f0 : Bool} (h : ay w0 W g f0) (x : Bool) : ay w0 (W.setCell ⟨g, 0, none⟩ (.bool x)) g x := by
 obtain ⟨hb, hg⟩ := h
 exact ⟨by simpa using DW hb 0 (.bool x), hg⟩
def bT.f (kE : Bool) (bJ : Int) (bM : Int) (bD : List Int) (a2 : Bool) (a3 : Int) : Option (Int × Int × List Int × Bool) := if kE = true then (some (bJ, bM, bD, true)) else (some (bJ, bM, bD, a2))
theorem bT.calls (g : Nat) (kE : Bool) (bJ : Int) (bM : Int) (nH : Nat → Prop) (Bj : Value) (bD : List Int) (a2 : Bool) (a3 : Int) (r1 : Int) (r2 : Int) (r3 : List Int) (r4 : Bool) (w0 w : World) (hI : ay w0 w g kE) (hB : Below w0.heap.size w0 w) (Qn : Kd.R (Kd.int .i64) 22 w w0.heap.size nH Bj bD) (h : bT.f kE bJ bM bD a2 a3 = some (r1, r2, r3, r4)) :
 Calls Try.prog 100 #[.pointer (some ⟨g, 0, none⟩), .agg #[.int .i64 bJ, .int .i64 bM, Bj], .bool a2, .int .i64 a3] w fun e w' => ∃ yS : Value, e = .returned (.agg #[.int .i64 r1, .int .i64 r2, yS]) ∧ Kd.R (Kd.int .i64) 22 w' w0.heap.size (fun k_ => (nH k_ ∨ w.heap.size ≤ k_)) yS r3 ∧ ay w0 w' g r4 ∧ Below w0.heap.size w0 w' ∧ Kept w w' (fun k_ => (nH k_) ∨ k_ = g) := by
 have G_ := Try.underlying31
 have kY := aj.mk (show Kd.R (Kd.int .i64) 22 w w0.heap.size (fun k_ => (nH k_ ∨ w.heap.size ≤ k_)) Bj bD from Kd.jo Qn (fun k_ hk => (.inl hk)))
 have HI0 := aj.mk hI
 have HL := aj.mk hB.size
 clear hI
 have HK := aj.mk (Kept.refl w (fun k_ => (nH k_) ∨ k_ = g))
 have HW0 := aj.mk hB.size
 have HB := aj.mk hB
 clear hB
 have H : (if kE = true then (some (bJ, bM, bD, true)) else (some (bJ, bM, bD, a2))) = some (r1, r2, r3, r4) := h
 clear h
 by_cases c5 : kE = true
 · subst c5
   rw [if_pos rfl] at H
   simp only [Option.some.injEq, Prod.mk.injEq] at H
   obtain ⟨rfl, rfl, rfl, rfl⟩ := H
   obtain ⟨O_, NL, eo6⟩ := Kd.kH kY.out
   subst eo6
   go_enter Try.func100, Try.ntmps100
   go_wp2_with (first | ((with_reducible refine dQ (N := 5) rfl ?_); refine dJ ?hg (N := 5) ?hd (cs := #[.int .i64 bJ, .int .i64 bM, .slice O_ bD.length NL]) (t := 31) ?hr ?_; (case hd => rfl); (case hg => rfl); (case hr => first | (go_simp; done) | (go_simp; rfl)); intro iC hg w7 hbox hb; have bu := aj.mk (Kd.lD (by (with_reducible repeat (first | apply Kd.fC | apply Kd.fB | apply Kd.gX)); exact kY.out) hb); have fE := aj.mk (ay.below (by repeat (first | (with_reducible first | exact HI0.out | apply ay.alloc | apply ay.drewN | apply ay.drew | apply ay.fM) | exact HI0.out)) hb); have fD := aj.mk (Kept.below (S := (fun k_ => (nH k_) ∨ k_ = g)) (by repeat (first | (with_reducible first | exact HK.out | apply Kept.alloc | apply Kept.drewN | apply Kept.drew | refine Kept.setCell ?_ (.inl (.inr rfl)) _) | exact HK.out)) hb); have iq := aj.mk (aO (by repeat (first | (with_reducible first | exact HB.out | apply ak | apply ah | apply au | refine aG ?_ (ay.ge HI0.out)) | exact HB.out)) hb); have jP := aj.mk (hbox); have ku := aj.mk ((by rw [hg]; exact (by first | exact HK.out.1 | exact (show Kept w _ (fun k_ => (nH k_) ∨ k_ = g) from by repeat (first | (with_reducible first | exact HK.out | apply Kept.alloc | apply Kept.drewN | apply Kept.drew | refine Kept.setCell ?_ (.inl (.inr rfl)) _) | exact HK.out)).1) : w.heap.size ≤ iC)); have kM := aj.mk ((by rw [hg]; exact (bC (by repeat (first | (with_reducible first | exact HB.out | apply ak | apply ah | apply au | refine aG ?_ (ay.ge HI0.out)) | exact HB.out))) : w0.heap.size ≤ iC)); have qg := aj.mk ((by rw [hg]; exact Nat.ne_of_lt (ay.lt (show ay w0 _ g true from by repeat (first | (with_reducible first | exact HI0.out | apply ay.alloc | apply ay.drewN | apply ay.drew | apply ay.fM) | exact HI0.out))) : g ≠ iC)); have tJ := aj.mk ((by rw [hg]; exact Nat.ne_of_gt (ay.lt (show ay w0 _ g true from by repeat (first | (with_reducible first | exact HI0.out | apply ay.alloc | apply ay.drewN | apply ay.drew | apply ay.fM) | exact HI0.out))) : iC ≠ g)); clear kY; clear HI0; clear HK; clear HB; have kY := bu; have HI0 := fE; have HK := fD; have HB := iq; have jg := jP; have wO := ku; have wR := kM; have jW := qg; have yO := tJ; clear bu fE fD iq jP ku kM qg tJ; clear hb hbox hg) | ((with_reducible refine dQ (N := 8) rfl ?_); refine dJ ?hg (N := 8) ?hd (cs := #[.int .i64 0, .int .i64 0, .slice none 0 0]) (t := 31) ?hr ?_; (case hd => rfl); (case hg => rfl); (case hr => first | (go_simp; done) | (go_simp; rfl)); intro gV hg w8 hbox hb; have bu := aj.mk (Kd.lD (by (with_reducible repeat (first | apply Kd.fC | apply Kd.fB | apply Kd.gX)); exact kY.out) hb); have fE := aj.mk (ay.below (by repeat (first | (with_reducible first | exact HI0.out | apply ay.alloc | apply ay.drewN | apply ay.drew | apply ay.fM | refine ay.far ?_ jW.out _) | exact HI0.out)) hb); have fD := aj.mk (bG (g := iC) (o := .cells #[.int .i64 bJ, .int .i64 bM, .slice O_ bD.length NL] 31 (0, 0)) (by (with_reducible repeat (first | refine aB ?_ _ | refine aH ?_ | refine aC ?_ _)); exact jg.out) hb); have iq := aj.mk (Kept.below (S := (fun k_ => (nH k_) ∨ k_ = g)) (by repeat (first | (with_reducible first | exact HK.out | apply Kept.alloc | apply Kept.drewN | apply Kept.drew | refine Kept.setCell ?_ (.inl (.inr rfl)) _ | refine Kept.setCell ?_ (.inr wO.out) _) | exact HK.out)) hb); have jP := aj.mk (aO (by repeat (first | (with_reducible first | exact HB.out | apply ak | apply ah | apply au | refine aG ?_ (ay.ge HI0.out) | refine aG ?_ wR.out) | exact HB.out)) hb); have ku := aj.mk (hbox); have kM := aj.mk ((by rw [hg]; exact (by first | exact HK.out.1 | exact (show Kept w _ (fun k_ => (nH k_) ∨ k_ = g) from by repeat (first | (with_reducible first | exact HK.out | apply Kept.alloc | apply Kept.drewN | apply Kept.drew | refine Kept.setCell ?_ (.inl (.inr rfl)) _ | refine Kept.setCell ?_ (.inr wO.out) _) | exact HK.out)).1) : w.heap.size ≤ gV)); have qg := aj.mk ((by rw [hg]; exact (bC (by repeat (first | (with_reducible first | exact HB.out | apply ak | apply ah | apply au | refine aG ?_ (ay.ge HI0.out) | refine aG ?_ wR.out) | exact HB.out))) : w0.heap.size ≤ gV)); have tJ := aj.mk ((by rw [hg]; exact Nat.ne_of_lt (dU (g := iC) (o := .cells #[.int .i64 bJ, .int .i64 bM, .slice O_ bD.length NL] 31 (0, 0)) (by (with_reducible repeat (first | refine aB ?_ _ | refine aH ?_ | refine aC ?_ _)); exact jg.out)) : iC ≠ gV)); have Dw := aj.mk ((by rw [hg]; exact Nat.ne_of_gt (dU (g := iC) (o := .cells #[.int .i64 bJ, .int .i64 bM, .slice O_ bD.length NL] 31 (0, 0)) (by (with_reducible repeat (first | refine aB ?_ _ | refine aH ?_ | refine aC ?_ _)); exact jg.out)) : gV ≠ iC)); have qU := aj.mk ((by rw [hg]; exact Nat.ne_of_lt (ay.lt (show ay w0 _ g true from by repeat (first | (with_reducible first | exact HI0.out | apply ay.alloc | apply ay.drewN | apply ay.drew | apply ay.fM | refine ay.far ?_ jW.out _) | exact HI0.out))) : g ≠ gV)); have zn := aj.mk ((by rw [hg]; exact Nat.ne_of_gt (ay.lt (show ay w0 _ g true from by repeat (first | (with_reducible first | exact HI0.out | apply ay.alloc | apply ay.drewN | apply ay.drew | apply ay.fM | refine ay.far ?_ jW.out _) | exact HI0.out))) : gV ≠ g)); clear kY; clear HI0; clear jg; clear HK; clear HB; have kY := bu; have HI0 := fE; have jg := fD; have HK := iq; have HB := jP; have kU := ku; have IW := kM; have IZ := qg; have sZ := tJ; have sW := Dw; have rU := qU; have rQ := zn; clear bu fE fD iq jP ku kM qg tJ Dw qU zn; clear hb hbox hg; obtain ⟨OV, Xo⟩ := HI0.out; have Ht := wo OV; have Hl := aS OV 0; clear OV Xo; have Qu := sZ.out; have Qq := sW.out; have Qs := yO.out; have Qp := jW.out; have DJ : w8.cell? ⟨iC, 0, none⟩ = some (.int .i64 bJ) := (aA jg.out 0).trans rfl; have DI : w8.cell? ⟨iC, 1, none⟩ = some (.int .i64 bM) := (aA jg.out 1).trans rfl; have DF : w8.cell? ⟨iC, 2, none⟩ = some (.slice O_ bD.length NL) := (aA jg.out 2).trans rfl; have DD := aS jg.out 0; have Dz := aS jg.out 1; have Dy := aS jg.out 2; have ZO := rQ.out; have ZJ := rU.out; have VG : w8.cell? ⟨gV, 0, none⟩ = some (.int .i64 0) := (aA kU.out 0).trans rfl; have VE : w8.cell? ⟨gV, 1, none⟩ = some (.int .i64 0) := (aA kU.out 1).trans rfl; have VD : w8.cell? ⟨gV, 2, none⟩ = some (.slice none 0 0) := (aA kU.out 2).trans rfl; have Vo := aS kU.out 0; have Vm := aS kU.out 1; have Vl := aS kU.out 2))
   refine bodyPost_ret (results_cell_row rfl _ _ gV 31 #[.int .i64 bJ, .int .i64 bM, .slice O_ bD.length NL] (0, 0) _ rfl (by (with_reducible repeat (first | refine aB ?_ _ | refine aH ?_ | refine aC ?_ _)); refine dS (cs := #[.int .i64 bJ, .int .i64 bM, .slice none 0 0]) ?_ 2 _ rfl; (with_reducible repeat (first | refine aB ?_ _ | refine aH ?_ | refine aC ?_ _)); refine dS (cs := #[.int .i64 bJ, .int .i64 0, .slice none 0 0]) ?_ 1 _ rfl; (with_reducible repeat (first | refine aB ?_ _ | refine aH ?_ | refine aC ?_ _)); refine dS (cs := #[.int .i64 0, .int .i64 0, .slice none 0 0]) ?_ 0 _ rfl; (with_reducible repeat (first | refine aB ?_ _ | refine aH ?_ | refine aC ?_ _)); refine jA ?_ rQ.out _; (with_reducible repeat (first | refine aB ?_ _ | refine aH ?_ | refine aC ?_ _)); exact kU.out) Try.underlying31 rfl (by kernel_rfl)) rfl ?_
   exact ⟨_, by first | rfl | (simp [aN, aK] <;> rfl) | (simp [*, aN, aK] <;> rfl), by (with_reducible repeat (first | apply Kd.fC | apply Kd.fB | apply Kd.gX)); exact Kd.jo (Kd.kS (p := ⟨gV, 2, none⟩) (Kd.kS (p := ⟨gV, 1, none⟩) (Kd.kS (p := ⟨gV, 0, none⟩) (Kd.kS (p := ⟨g, 0, none⟩) (Kd.pO (ay.apart HI0.out kY.out (by decide)) kU.out (by decide)) (fun _ hk => hk.1.2) (.bool true)) (fun _ hk => hk.2) (.int .i64 bJ)) (fun _ hk => hk.2) (.int .i64 bM)) (fun _ hk => hk.2) (.slice O_ bD.length NL)) (fun _ hk => hk.1.1), by repeat (first | (with_reducible first | exact HI0.out | apply ay.alloc | apply ay.drewN | apply ay.drew | apply ay.fM | refine ay.far ?_ jW.out _ | refine ay.far ?_ rU.out _) | exact HI0.out), by repeat (first | (with_reducible first | exact HB.out | apply ak | apply ah | apply au | refine aG ?_ (ay.ge HI0.out) | refine aG ?_ wR.out | refine aG ?_ IZ.out) | exact HB.out), by repeat (first | (with_reducible first | exact HK.out | apply Kept.alloc | apply Kept.drewN | apply Kept.drew | refine Kept.setCell ?_ (.inl (.inr rfl)) _ | refine Kept.setCell ?_ (.inr wO.out) _ | refine Kept.setCell ?_ (.inr IW.out) _) | exact HK.out)⟩
 · replace c5 := Bool.eq_false_iff.mpr c5
   subst c5
   have H1 : (some (bJ, bM, bD, a2)) = some (r1, r2, r3, r4) := by rw [if_neg (show ¬ (false = true) by decide)] at H; exact H
   clear H
   have H := H1
   clear H1
   simp only [Option.some.injEq, Prod.mk.injEq] at H
   obtain ⟨rfl, rfl, rfl, rfl⟩ := H
   obtain ⟨Dj, CG, XU⟩ := Kd.kH kY.out
   subst XU
   go_enter Try.func100, Try.ntmps100
   go_wp2_with (first | ((with_reducible refine dQ (N := 5) rfl ?_); refine dJ ?hg (N := 5) ?hd (cs := #[.int .i64 bJ, .int .i64 bM, .slice Dj bD.length CG]) (t := 31) ?hr ?_; (case hd => rfl); (case hg => rfl); (case hr => first | (go_simp; done) | (go_simp; rfl)); intro iC hg w16 hbox hb; have bu := aj.mk (Kd.lD (by (with_reducible repeat (first | apply Kd.fC | apply Kd.fB | apply Kd.gX)); exact kY.out) hb); have fE := aj.mk (ay.below (by repeat (first | (with_reducible first | exact HI0.out | apply ay.alloc | apply ay.drewN | apply ay.drew | apply ay.fM) | exact HI0.out)) hb); have fD := aj.mk (Kept.below (S := (fun k_ => (nH k_) ∨ k_ = g)) (by repeat (first | (with_reducible first | exact HK.out | apply Kept.alloc | apply Kept.drewN | apply Kept.drew | refine Kept.setCell ?_ (.inl (.inr rfl)) _) | exact HK.out)) hb); have iq := aj.mk (aO (by repeat (first | (with_reducible first | exact HB.out | apply ak | apply ah | apply au | refine aG ?_ (ay.ge HI0.out)) | exact HB.out)) hb); have jP := aj.mk (hbox); have ku := aj.mk ((by rw [hg]; exact (by first | exact HK.out.1 | exact (show Kept w _ (fun k_ => (nH k_) ∨ k_ = g) from by repeat (first | (with_reducible first | exact HK.out | apply Kept.alloc | apply Kept.drewN | apply Kept.drew | refine Kept.setCell ?_ (.inl (.inr rfl)) _) | exact HK.out)).1) : w.heap.size ≤ iC)); have kM := aj.mk ((by rw [hg]; exact (bC (by repeat (first | (with_reducible first | exact HB.out | apply ak | apply ah | apply au | refine aG ?_ (ay.ge HI0.out)) | exact HB.out))) : w0.heap.size ≤ iC)); have qg := aj.mk ((by rw [hg]; exact Nat.ne_of_lt (ay.lt (show ay w0 _ g false from by repeat (first | (with_reducible first | exact HI0.out | apply ay.alloc | apply ay.drewN | apply ay.drew | apply ay.fM) | exact HI0.out))) : g ≠ iC)); have tJ := aj.mk ((by rw [hg]; exact Nat.ne_of_gt (ay.lt (show ay w0 _ g false from by repeat (first | (with_reducible first | exact HI0.out | apply ay.alloc | apply ay.drewN | apply ay.drew | apply ay.fM) | exact HI0.out))) : iC ≠ g)); clear kY; clear HI0; clear HK; clear HB; have kY := bu; have HI0 := fE; have HK := fD; have HB := iq; have jg := jP; have wO := ku; have wR := kM; have jW := qg; have yO := tJ; clear bu fE fD iq jP ku kM qg tJ; clear hb hbox hg) | ((with_reducible refine dQ (N := 8) rfl ?_); refine dJ ?hg (N := 8) ?hd (cs := #[.int .i64 0, .int .i64 0, .slice none 0 0]) (t := 31) ?hr ?_; (case hd => rfl); (case hg => rfl); (case hr => first | (go_simp; done) | (go_simp; rfl)); intro gV hg Pn hbox hb; have bu := aj.mk (Kd.lD (by (with_reducible repeat (first | apply Kd.fC | apply Kd.fB | apply Kd.gX)); exact kY.out) hb); have fE := aj.mk (ay.below (by repeat (first | (with_reducible first | exact HI0.out | apply ay.alloc | apply ay.drewN | apply ay.drew | apply ay.fM | refine ay.far ?_ jW.out _) | exact HI0.out)) hb); have fD := aj.mk (bG (g := iC) (o := .cells #[.int .i64 bJ, .int .i64 bM, .slice Dj bD.length CG] 31 (0, 0)) (by (with_reducible repeat (first | refine aB ?_ _ | refine aH ?_ | refine aC ?_ _)); exact jg.out) hb); have iq := aj.mk (Kept.below (S := (fun k_ => (nH k_) ∨ k_ = g)) (by repeat (first | (with_reducible first | exact HK.out | apply Kept.alloc | apply Kept.drewN | apply Kept.drew | refine Kept.setCell ?_ (.inl (.inr rfl)) _ | refine Kept.setCell ?_ (.inr wO.out) _) | exact HK.out)) hb); have jP := aj.mk (aO (by repeat (first | (with_reducible first | exact HB.out | apply ak | apply ah | apply au | refine aG ?_ (ay.ge HI0.out) | refine aG ?_ wR.out) | exact HB.out)) hb); have ku := aj.mk (hbox); have kM := aj.mk ((by rw [hg]; exact (by first | exact HK.out.1 | exact (show Kept w _ (fun k_ => (nH k_) ∨ k_ = g) from by repeat (first | (with_reducible first | exact HK.out | apply Kept.alloc | apply Kept.drewN | apply Kept.drew | refine Kept.setCell ?_ (.inl (.inr rfl)) _ | refine Kept.setCell ?_ (.inr wO.out) _) | exact HK.out)).1) : w.heap.size ≤ gV)); have qg := aj.mk ((by rw [hg]; exact (bC (by repeat (first | (with_reducible first | exact HB.out | apply ak | apply ah | apply au | refine aG ?_ (ay.ge HI0.out) | refine aG ?_ wR.out) | exact HB.out))) : w0.heap.size ≤ gV)); have tJ := aj.mk ((by rw [hg]; exact Nat.ne_of_lt (dU (g := iC) (o := .cells #[.int .i64 bJ, .int .i64 bM, .slice Dj bD.length CG] 31 (0, 0)) (by (with_reducible repeat (first | refine aB ?_ _ | refine aH ?_ | refine aC ?_ _)); exact jg.out)) : iC ≠ gV)); have Dw := aj.mk ((by rw [hg]; exact Nat.ne_of_gt (dU (g := iC) (o := .cells #[.int .i64 bJ, .int .i64 bM, .slice Dj bD.length CG] 31 (0, 0)) (by (with_reducible repeat (first | refine aB ?_ _ | refine aH ?_ | refine aC ?_ _)); exact jg.out)) : gV ≠ iC)); have qU := aj.mk ((by rw [hg]; exact Nat.ne_of_lt (ay.lt (show ay w0 _ g false from by repeat (first | (with_reducible first | exact HI0.out | apply ay.alloc | apply ay.drewN | apply ay.drew | apply ay.fM | refine ay.far ?_ jW.out _) | exact HI0.out))) : g ≠ gV)); have zn := aj.mk ((by rw [hg]; exact Nat.ne_of_gt (ay.lt (show ay w0 _ g false from by repeat (first | (with_reducible first | exact HI0.out | apply ay.alloc | apply ay.drewN | apply ay.drew | apply ay.fM | refine ay.far ?_ jW.out _) | exact HI0.out))) : gV ≠ g)); clear kY; clear HI0; clear jg; clear HK; clear HB; have kY := bu; have HI0 := fE; have jg := fD; have HK := iq; have HB := jP; have kU := ku; have IW := kM; have IZ := qg; have sZ := tJ; have sW := Dw; have rU := qU; have rQ := zn; clear bu fE fD iq jP ku kM qg tJ Dw qU zn; clear hb hbox hg; obtain ⟨IV, Qx⟩ := HI0.out; have VC := wo IV; have Vk := aS IV 0; clear IV Qx; have ZN := sZ.out; have ZI := sW.out; have ZM := yO.out; have ZH := jW.out; have VB : Pn.cell? ⟨iC, 0, none⟩ = some (.int .i64 bJ) := (aA jg.out 0).trans rfl; have VA : Pn.cell? ⟨iC, 1, none⟩ = some (.int .i64 bM) := (aA jg.out 1).trans rfl; have Vz : Pn.cell? ⟨iC, 2, none⟩ = some (.slice Dj bD.length CG) := (aA jg.out 2).trans rfl; have Vj := aS jg.out 0; have Vh := aS jg.out 1; have Vg := aS jg.out 2; have Qr := rQ.out; have Qo := rU.out; have Vy : Pn.cell? ⟨gV, 0, none⟩ = some (.int .i64 0) := (aA kU.out 0).trans rfl; have Vx : Pn.cell? ⟨gV, 1, none⟩ = some (.int .i64 0) := (aA kU.out 1).trans rfl; have Vw : Pn.cell? ⟨gV, 2, none⟩ = some (.slice none 0 0) := (aA kU.out 2).trans rfl; have Vf := aS kU.out 0; have Ve := aS kU.out 1; have Vd := aS kU.out 2))
   refine bodyPost_ret (results_cell_row rfl _ _ gV 31 #[.int .i64 bJ, .int .i64 bM, .slice Dj bD.length CG] (0, 0) _ rfl (by (with_reducible repeat (first | refine aB ?_ _ | refine aH ?_ | refine aC ?_ _)); refine dS (cs := #[.int .i64 bJ, .int .i64 bM, .slice none 0 0]) ?_ 2 _ rfl; (with_reducible repeat (first | refine aB ?_ _ | refine aH ?_ | refine aC ?_ _)); refine dS (cs := #[.int .i64 bJ, .int .i64 0, .slice none 0 0]) ?_ 1 _ rfl; (with_reducible repeat (first | refine aB ?_ _ | refine aH ?_ | refine aC ?_ _)); refine dS (cs := #[.int .i64 0, .int .i64 0, .slice none 0 0]) ?_ 0 _ rfl; (with_reducible repeat (first | refine aB ?_ _ | refine aH ?_ | refine aC ?_ _)); refine jA ?_ rQ.out _; (with_reducible repeat (first | refine aB ?_ _ | refine aH ?_ | refine aC ?_ _)); exact kU.out) Try.underlying31 rfl (by kernel_rfl)) rfl ?_
   exact ⟨_, by first | rfl | (simp [aN, aK] <;> rfl) | (simp [*, aN, aK] <;> rfl), by (with_reducible repeat (first | apply Kd.fC | apply Kd.fB | apply Kd.gX)); exact Kd.jo (Kd.kS (p := ⟨gV, 2, none⟩) (Kd.kS (p := ⟨gV, 1, none⟩) (Kd.kS (p := ⟨gV, 0, none⟩) (Kd.kS (p := ⟨g, 0, none⟩) (Kd.pO (ay.apart HI0.out kY.out (by decide)) kU.out (by decide)) (fun _ hk => hk.1.2) (.bool a2)) (fun _ hk => hk.2) (.int .i64 bJ)) (fun _ hk => hk.2) (.int .i64 bM)) (fun _ hk => hk.2) (.slice Dj bD.length CG)) (fun _ hk => hk.1.1), by repeat (first | (with_reducible first | exact HI0.out | apply ay.alloc | apply ay.drewN | apply ay.drew | apply ay.fM | refine ay.far ?_ jW.out _ | refine ay.far ?_ rU.out _) | exact HI0.out), by repeat (first | (with_reducible first | exact HB.out | apply ak | apply ah | apply au | refine aG ?_ (ay.ge HI0.out) | refine aG ?_ wR.out | refine aG ?_ IZ.out) | exact HB.out), by repeat (first | (with_reducible first | exact HK.out | apply Kept.alloc | apply Kept.drewN | apply Kept.drew | refine Kept.setCell ?_ (.inl (.inr rfl)) _ | refine Kept.setCell ?_ (.inr wO.out) _ | refine Kept.setCell ?_ (.inr IW.out) _) | exact HK.out)⟩
def aY.f (kE : Bool) (bJ : Int) (bM : Int) (bD : List Int) (jK : Int) (jJ : Int) (jh : List Int) : Option (Int × Int × List Int × Bool) := (gz.f bJ bM bD jK jJ jh).bind fun oV => ((bT.f kE oV.1 oV.2.1 oV.2.2.1 oV.2.2.2.1 oV.2.2.2.2).bind fun mW => ((iE.f bJ bM bD).bind fun l7 => ((gz.f mW.1 mW.2.1 mW.2.2.1 l7.1 l7.2.1 l7.2.2).bind fun fZ => ((bT.f mW.2.2.2 fZ.1 fZ.2.1 fZ.2.2.1 fZ.2.2.2.1 fZ.2.2.2.2).bind fun fV => (some (fV.1, fV.2.1, fV.2.2.1, fV.2.2.2))))))
def aY.T1 : Bool × List (List Nat × List Nat) := (true, [([], []), ([], []), ([], []), ([], []), ([2, 3], [2, 3]), ([4], [4]), ([4], [4]), ([4], [4]), ([1, 5, 6, 7, 4], [1, 5, 6, 7]), ([], []), ([9, 8], [9]), ([8, 10, 10], [8, 10]), ([11], [11]), ([11], [11]), ([11], [11]), ([0, 12, 13, 14, 11], [0, 12, 13, 14]), ([15, 15, 0, 1, 2, 3, 4, 5, 6, 7, 8, 9, 10, 11, 12, 13, 14, 15], [15])])
def aY.B1 : List Nat := [0, 0, 0, 0, 12, 28, 28, 28, 254, 0, 1022, 2046, 4094, 4094, 4094, 32767, 65535]
theorem aY.Jf : lN .any (opsOf Try.f103 1) = aY.T1 := by kernel_rfl
theorem aY.DY : nN aY.T1.2 aY.B1 = true := by kernel_rfl
theorem aY.calls (g : Nat) (kE : Bool) (bJ : Int) (bM : Int) (fA : Option Addr) (fF : Nat) (bD : List Int) (jK : Int) (jJ : Int) (ny : Option Addr) (nU : Nat) (jh : List Int) (r1 : Int) (r2 : Int) (r3 : List Int) (r4 : Bool) (w0 w : World) (hI : ay w0 w g kE) (hB : Below w0.heap.size w0 w) (nC : Kd.C (Kd.int .i64) w fA bD.length bD) (n_ : bD.length ≤ fF) (zM : ∀ ad, fA = some ad → 0 < bD.length → ad.block ≠ g) (zF : Kd.C (Kd.int .i64) w ny jh.length jh) (zN : jh.length ≤ nU) (zL : ∀ ad, ny = some ad → 0 < jh.length → ad.block ≠ g) (h : aY.f kE bJ bM bD jK jJ jh = some (r1, r2, r3, r4)) :
 Calls Try.prog 103 #[.pointer (some ⟨g, 0, none⟩), .agg #[.int .i64 bJ, .int .i64 bM, .slice fA bD.length fF], .agg #[.int .i64 jK, .int .i64 jJ, .slice ny jh.length nU]] w fun e w' => ∃ yS : Value, e = .returned (.agg #[.int .i64 r1, .int .i64 r2, yS]) ∧ Kd.R (Kd.int .i64) 22 w' w.heap.size (fun _ => True) yS r3 ∧ ay w0 w' g r4 ∧ Below w0.heap.size w0 w' ∧ aW w w' g none := by
 have G_ := Try.underlying31
 have wJ := aj.mk nC
 have wL := aj.mk n_
 clear nC n_
 have TK := aj.mk zF
 have TS := aj.mk zN
 clear zF zN
 have HI0 := aj.mk hI
 have HK := aj.mk (aW.refl w g none)
 have HL := aj.mk hB.size
 clear hI
 have HW0 := aj.mk hB.size
 have HB := aj.mk hB
 clear hB
 have H : ((gz.f bJ bM bD jK jJ jh).bind fun oV => ((bT.f kE oV.1 oV.2.1 oV.2.2.1 oV.2.2.2.1 oV.2.2.2.2).bind fun mW => ((iE.f bJ bM bD).bind fun l7 => ((gz.f mW.1 mW.2.1 mW.2.2.1 l7.1 l7.2.1 l7.2.2).bind fun fZ => ((bT.f mW.2.2.2 fZ.1 fZ.2.1 fZ.2.2.1 fZ.2.2.2.1 fZ.2.2.2.2).bind fun fV => (some (fV.1, fV.2.1, fV.2.2.1, fV.2.2.2))))))) = some (r1, r2, r3, r4) := h
 clear h
 replace H := Option.bind_eq_some_iff.mp H
 obtain ⟨⟨t106, t107, t108, t111, t112⟩, Ba, H⟩ := H
 replace H : ((bT.f kE t106 t107 t108 t111 t112).bind fun mW => ((iE.f bJ bM bD).bind fun l7 => ((gz.f mW.1 mW.2.1 mW.2.2.1 l7.1 l7.2.1 l7.2.2).bind fun fZ => ((bT.f mW.2.2.2 fZ.1 fZ.2.1 fZ.2.2.1 fZ.2.2.2.1 fZ.2.2.2.2).bind fun fV => (some (fV.1, fV.2.1, fV.2.2.1, fV.2.2.2)))))) = some (r1, r2, r3, r4) := H
 have A4 := aj.mk Ba
 clear Ba
 replace H := Option.bind_eq_some_iff.mp H
 obtain ⟨⟨t113, t114, t115, t118⟩, Um, H⟩ := H
 replace H : ((iE.f bJ bM bD).bind fun l7 => ((gz.f t113 t114 t115 l7.1 l7.2.1 l7.2.2).bind fun fZ => ((bT.f t118 fZ.1 fZ.2.1 fZ.2.2.1 fZ.2.2.2.1 fZ.2.2.2.2).bind fun fV => (some (fV.1, fV.2.1, fV.2.2.1, fV.2.2.2))))) = some (r1, r2, r3, r4) := H
 have A5 := aj.mk Um
 clear Um
 replace H := Option.bind_eq_some_iff.mp H
 obtain ⟨⟨t119, t120, t121⟩, L_, H⟩ := H
 replace H : ((gz.f t113 t114 t115 t119 t120 t121).bind fun fZ => ((bT.f t118 fZ.1 fZ.2.1 fZ.2.2.1 fZ.2.2.2.1 fZ.2.2.2.2).bind fun fV => (some (fV.1, fV.2.1, fV.2.2.1, fV.2.2.2)))) = some (r1, r2, r3, r4) := H
 have A6 := aj.mk L_
 clear L_
 replace H := Option.bind_eq_some_iff.mp H
 obtain ⟨⟨t124, t125, t126, t129, t130⟩, Ul, H⟩ := H
 replace H : ((bT.f t118 t124 t125 t126 t129 t130).bind fun fV => (some (fV.1, fV.2.1, fV.2.2.1, fV.2.2.2))) = some (r1, r2, r3, r4) := H
 have A7 := aj.mk Ul
 clear Ul
 replace H := Option.bind_eq_some_iff.mp H
 obtain ⟨⟨t131, t132, t133, t136⟩, Uk, H⟩ := H
 replace H : (some (t131, t132, t133, t136)) = some (r1, r2, r3, r4) := H
 have A8 := aj.mk Uk
 clear Uk
 simp only [Option.some.injEq, Prod.mk.injEq] at H
 obtain ⟨rfl, rfl, rfl, rfl⟩ := H
 go_enter Try.func103, Try.ntmps103
 try go_wp2_with (first | ((with_reducible refine dQ (N := 4) rfl ?_); refine dJ ?hg (N := 4) ?hd (cs := #[.int .i64 bJ, .int .i64 bM, .slice fA bD.length fF]) (t := 31) ?hr ?_; (case hd => rfl); (case hg => rfl); (case hr => first | (go_simp; done) | (go_simp; rfl)); intro jw hg w9 hbox hb; have bu := aj.mk (ay.below (by repeat (first | (with_reducible first | exact HI0.out | apply ay.alloc | apply ay.drewN | apply ay.drew | apply ay.fM) | exact HI0.out)) hb); have fE := aj.mk (aW.trans (by repeat (first | (with_reducible first | exact HK.out | apply aW.lM | apply bW | apply cO | apply bY) | exact HK.out)) (aW.of_below hb g none) (.inl rfl)); have fD := aj.mk (aO (by repeat (first | (with_reducible first | exact HB.out | apply ak | apply ah | apply au | refine aG ?_ (ay.ge HI0.out)) | exact HB.out)) hb); have iq := aj.mk (hbox); have jP := aj.mk ((by rw [hg]; exact (gU (w := w) (g := g) (row := none) (by repeat (first | (with_reducible first | exact HK.out | apply aW.lM | apply bW | apply cO | apply bY) | exact HK.out))) : w.heap.size ≤ jw)); have ku := aj.mk ((Nat.le_trans HW0.out (by rw [hg]; exact (gU (w := w) (g := g) (row := none) (by repeat (first | (with_reducible first | exact HK.out | apply aW.lM | apply bW | apply cO | apply bY) | exact HK.out))) : w.heap.size ≤ jw) : w0.heap.size ≤ jw)); have kM := aj.mk ((by rw [hg]; exact Nat.ne_of_lt (ay.lt (show ay w0 _ g kE from by repeat (first | (with_reducible first | exact HI0.out | apply ay.alloc | apply ay.drewN | apply ay.drew | apply ay.fM) | exact HI0.out))) : g ≠ jw)); have qg := aj.mk ((by rw [hg]; exact Nat.ne_of_gt (ay.lt (show ay w0 _ g kE from by repeat (first | (with_reducible first | exact HI0.out | apply ay.alloc | apply ay.drewN | apply ay.drew | apply ay.fM) | exact HI0.out))) : jw ≠ g)); clear HI0; clear HK; clear HB; have HI0 := bu; have HK := fE; have HB := fD; have dF := iq; have jH := jP; have uy := ku; have jB := kM; have Eh := qg; clear bu fE fD iq jP ku kM qg; clear hb hbox hg) | ((with_reducible refine dQ (N := 5) rfl ?_); refine dJ ?hg (N := 5) ?hd (cs := #[.int .i64 jK, .int .i64 jJ, .slice ny jh.length nU]) (t := 31) ?hr ?_; (case hd => rfl); (case hg => rfl); (case hr => first | (go_simp; done) | (go_simp; rfl)); intro kD hg w10 hbox hb; have bu := aj.mk (ay.below (by repeat (first | (with_reducible first | exact HI0.out | apply ay.alloc | apply ay.drewN | apply ay.drew | apply ay.fM | refine ay.far ?_ jB.out _) | exact HI0.out)) hb); have fE := aj.mk (bG (g := jw) (o := .cells #[.int .i64 bJ, .int .i64 bM, .slice fA bD.length fF] 31 (0, 0)) (by (with_reducible repeat (first | refine aB ?_ _ | refine aH ?_ | refine aC ?_ _)); exact dF.out) hb); have fD := aj.mk (aW.trans (by repeat (first | (with_reducible first | exact HK.out | apply aW.lM | apply bW | apply cO | apply bY | refine aX ?_ jH.out _) | exact HK.out)) (aW.of_below hb g none) (.inl rfl)); have iq := aj.mk (aO (by repeat (first | (with_reducible first | exact HB.out | apply ak | apply ah | apply au | refine aG ?_ (ay.ge HI0.out) | refine aG ?_ uy.out) | exact HB.out)) hb); have jP := aj.mk (hbox); have ku := aj.mk ((by rw [hg]; exact (gU (w := w) (g := g) (row := none) (by repeat (first | (with_reducible first | exact HK.out | apply aW.lM | apply bW | apply cO | apply bY | refine aX ?_ jH.out _) | exact HK.out))) : w.heap.size ≤ kD)); have kM := aj.mk ((Nat.le_trans HW0.out (by rw [hg]; exact (gU (w := w) (g := g) (row := none) (by repeat (first | (with_reducible first | exact HK.out | apply aW.lM | apply bW | apply cO | apply bY | refine aX ?_ jH.out _) | exact HK.out))) : w.heap.size ≤ kD) : w0.heap.size ≤ kD)); have qg := aj.mk ((by rw [hg]; exact Nat.ne_of_lt (dU (g := jw) (o := .cells #[.int .i64 bJ, .int .i64 bM, .slice fA bD.length fF] 31 (0, 0)) (by (with_reducible repeat (first | refine aB ?_ _ | refine aH ?_ | refine aC ?_ _)); exact dF.out)) : jw ≠ kD)); have tJ := aj.mk ((by rw [hg]; exact Nat.ne_of_gt (dU (g := jw) (o := .cells #[.int .i64 bJ, .int .i64 bM, .slice fA bD.length fF] 31 (0, 0)) (by (with_reducible repeat (first | refine aB ?_ _ | refine aH ?_ | refine aC ?_ _)); exact dF.out)) : kD ≠ jw)); have Dw := aj.mk ((by rw [hg]; exact Nat.ne_of_lt (ay.lt (show ay w0 _ g kE from by repeat (first | (with_reducible first | exact HI0.out | apply ay.alloc | apply ay.drewN | apply ay.drew | apply ay.fM | refine ay.far ?_ jB.out _) | exact HI0.out))) : g ≠ kD)); have qU := aj.mk ((by rw [hg]; exact Nat.ne_of_gt (ay.lt (show ay w0 _ g kE from by repeat (first | (with_reducible first | exact HI0.out | apply ay.alloc | apply ay.drewN | apply ay.drew | apply ay.fM | refine ay.far ?_ jB.out _) | exact HI0.out))) : kD ≠ g)); clear HI0; clear dF; clear HK; clear HB; have HI0 := bu; have dF := fE; have HK := fD; have HB := iq; have dK := jP; have kT := ku; have wQ := kM; have PN := qg; have PM := tJ; have lF := Dw; have Ef := qU; clear bu fE fD iq jP ku kM qg tJ Dw qU; clear hb hbox hg) | ((with_reducible refine dQ (N := 6) rfl ?_); refine dJ ?hg (N := 6) ?hd (cs := #[.int .i64 0, .int .i64 0, .slice none 0 0]) (t := 31) ?hr ?_; (case hd => rfl); (case hg => rfl); (case hr => first | (go_simp; done) | (go_simp; rfl)); intro dX hg Gi hbox hb; have bu := aj.mk (ay.below (by repeat (first | (with_reducible first | exact HI0.out | apply ay.alloc | apply ay.drewN | apply ay.drew | apply ay.fM | refine ay.far ?_ jB.out _ | refine ay.far ?_ lF.out _) | exact HI0.out)) hb); have fE := aj.mk (bG (g := jw) (o := .cells #[.int .i64 bJ, .int .i64 bM, .slice fA bD.length fF] 31 (0, 0)) (by (with_reducible repeat (first | refine aB ?_ _ | refine aH ?_ | refine aC ?_ _)); exact dF.out) hb); have fD := aj.mk (bG (g := kD) (o := .cells #[.int .i64 jK, .int .i64 jJ, .slice ny jh.length nU] 31 (0, 0)) (by (with_reducible repeat (first | refine aB ?_ _ | refine aH ?_ | refine aC ?_ _)); exact dK.out) hb); have iq := aj.mk (aW.trans (by repeat (first | (with_reducible first | exact HK.out | apply aW.lM | apply bW | apply cO | apply bY | refine aX ?_ jH.out _ | refine aX ?_ kT.out _) | exact HK.out)) (aW.of_below hb g none) (.inl rfl)); have jP := aj.mk (aO (by repeat (first | (with_reducible first | exact HB.out | apply ak | apply ah | apply au | refine aG ?_ (ay.ge HI0.out) | refine aG ?_ uy.out | refine aG ?_ wQ.out) | exact HB.out)) hb); have ku := aj.mk (hbox); have kM := aj.mk ((by rw [hg]; exact (gU (w := w) (g := g) (row := none) (by repeat (first | (with_reducible first | exact HK.out | apply aW.lM | apply bW | apply cO | apply bY | refine aX ?_ jH.out _ | refine aX ?_ kT.out _) | exact HK.out))) : w.heap.size ≤ dX)); have qg := aj.mk ((Nat.le_trans HW0.out (by rw [hg]; exact (gU (w := w) (g := g) (row := none) (by repeat (first | (with_reducible first | exact HK.out | apply aW.lM | apply bW | apply cO | apply bY | refine aX ?_ jH.out _ | refine aX ?_ kT.out _) | exact HK.out))) : w.heap.size ≤ dX) : w0.heap.size ≤ dX)); have tJ := aj.mk ((by rw [hg]; exact Nat.ne_of_lt (dU (g := jw) (o := .cells #[.int .i64 bJ, .int .i64 bM, .slice fA bD.length fF] 31 (0, 0)) (by (with_reducible repeat (first | refine aB ?_ _ | refine aH ?_ | refine aC ?_ _)); exact dF.out)) : jw ≠ dX)); have Dw := aj.mk ((by rw [hg]; exact Nat.ne_of_gt (dU (g := jw) (o := .cells #[.int .i64 bJ, .int .i64 bM, .slice fA bD.length fF] 31 (0, 0)) (by (with_reducible repeat (first | refine aB ?_ _ | refine aH ?_ | refine aC ?_ _)); exact dF.out)) : dX ≠ jw)); have qU := aj.mk ((by rw [hg]; exact Nat.ne_of_lt (dU (g := kD) (o := .cells #[.int .i64 jK, .int .i64 jJ, .slice ny jh.length nU] 31 (0, 0)) (by (with_reducible repeat (first | refine aB ?_ _ | refine aH ?_ | refine aC ?_ _)); exact dK.out)) : kD ≠ dX)); have zn := aj.mk ((by rw [hg]; exact Nat.ne_of_gt (dU (g := kD) (o := .cells #[.int .i64 jK, .int .i64 jJ, .slice ny jh.length nU] 31 (0, 0)) (by (with_reducible repeat (first | refine aB ?_ _ | refine aH ?_ | refine aC ?_ _)); exact dK.out)) : dX ≠ kD)); have P_ := aj.mk ((by rw [hg]; exact Nat.ne_of_lt (ay.lt (show ay w0 _ g kE from by repeat (first | (with_reducible first | exact HI0.out | apply ay.alloc | apply ay.drewN | apply ay.drew | apply ay.fM | refine ay.far ?_ jB.out _ | refine ay.far ?_ lF.out _) | exact HI0.out))) : g ≠ dX)); have P8 := aj.mk ((by rw [hg]; exact Nat.ne_of_gt (ay.lt (show ay w0 _ g kE from by repeat (first | (with_reducible first | exact HI0.out | apply ay.alloc | apply ay.drewN | apply ay.drew | apply ay.fM | refine ay.far ?_ jB.out _ | refine ay.far ?_ lF.out _) | exact HI0.out))) : dX ≠ g)); clear HI0; clear dF; clear dK; clear HK; clear HB; have HI0 := bu; have dF := fE; have dK := fD; have HK := iq; have HB := jP; have gp := ku; have mY := kM; have xR := qg; have fJ := tJ; have sV := Dw; have fH := qU; have sU := zn; have pU := P_; have Ee := P8; clear bu fE fD iq jP ku kM qg tJ Dw qU zn P_ P8; clear hb hbox hg))
 have bu := aj.mk (aH dF.out)
 have fE := aj.mk (aH dK.out)
 have fD := aj.mk (aH gp.out)
 have iq := aj.mk (ay.drew HI0.out)
 have jP := aj.mk (cO HK.out)
 have ku := aj.mk (au HB.out)
 clear dF
 clear dK
 clear gp
 clear HI0
 clear HK
 clear HB
 have dF := bu
 have dK := fE
 have gp := fD
 have HI0 := iq
 have HK := jP
 have HB := ku
 clear bu fE fD iq jP ku
 refine yf (n := 17) (S := fun w' => w'.cell? ⟨jw, 0, none⟩ = some (.int .i64 bJ) ∧ w'.cell? ⟨jw, 1, none⟩ = some (.int .i64 bM) ∧ w'.cell? ⟨jw, 2, none⟩ = some (.slice fA bD.length fF) ∧ w'.cell? ⟨kD, 0, none⟩ = some (.int .i64 jK) ∧ w'.cell? ⟨kD, 1, none⟩ = some (.int .i64 jJ) ∧ w'.cell? ⟨kD, 2, none⟩ = some (.slice ny jh.length nU)) (ds := []) #[false, false, false, false, false, false, false, false, false, false, false, false, false, false, false, false, false] (by kernel_rfl) rfl rfl ⟨(aA dF.out 0).trans rfl, (aA dF.out 1).trans rfl, (aA dF.out 2).trans rfl, (aA dK.out 0).trans rfl, (aA dK.out 1).trans rfl, (aA dK.out 2).trans rfl⟩ (fun hHeld => ?_); refine pz aY.Jf aY.DY (fun jf AQ => ?_)
 generalize Gi.drew = w12 at dF dK gp HI0 HK HB hHeld ⊢
 refine dV (i := 0) (N := some 7) (v := ?_) (a' := ?_) #[true, false, false, false, false, false, false, false, false, false, false, false, false, false, false, false, false] rfl rfl (dn jf.out (by kernel_rfl)) (fun _ _ _ h => h) (Or.inl ⟨by rfl, ?_⟩) ?_ ?_
 rotate_left
 · intro w'
   go_simp
   with_reducible rfl
 rotate_left
 · simp only [Act.put, List.setIfInBounds_toArray, List.set_cons_zero, List.set_cons_succ, bK, bU]
   rfl
 refine dV (i := 1) (N := some 8) (v := ?_) (a' := ?_) #[true, true, false, false, false, false, false, false, false, false, false, false, false, false, false, false, false] rfl rfl (dn jf.out (by kernel_rfl)) (fun _ _ _ h => h) (Or.inl ⟨by rfl, ?_⟩) ?_ ?_
 rotate_left
 · intro w'
   go_simp
   with_reducible rfl
 rotate_left
 · simp only [Act.put, List.setIfInBounds_toArray, List.set_cons_zero, List.set_cons_succ, bK, bU]
   rfl
 refine mJ (i := 2) (N := some 9) (v := ?_) (a' := ?_) #[true, true, true, false, false, false, false, false, false, false, false, false, false, false, false, false, false] rfl rfl (fK jf.out AQ.out (by kernel_rfl)) (fun _ _ _ h => h) (Or.inl ⟨by rfl, ?_⟩) hHeld ?_ ?_
 rotate_left
 · rintro w' ⟨s0, s1, s2, s3, s4, s5⟩
   go_simp
   with_reducible rfl
 rotate_left
 · simp only [Act.put, List.setIfInBounds_toArray, List.set_cons_zero, List.set_cons_succ, bK, bU]
   rfl
 refine mJ (i := 3) (N := some 10) (v := ?_) (a' := ?_) #[true, true, true, true, false, false, false, false, false, false, false, false, false, false, false, false, false] rfl rfl (fK jf.out AQ.out (by kernel_rfl)) (fun _ _ _ h => h) (Or.inl ⟨by rfl, ?_⟩) hHeld ?_ ?_
 rotate_left
 · rintro w' ⟨s0, s1, s2, s3, s4, s5⟩
   go_simp
   with_reducible rfl
 rotate_left
 · simp only [Act.put, List.setIfInBounds_toArray, List.set_cons_zero, List.set_cons_succ, bK, bU]
   rfl
 refine mJ (i := 9) (N := some 16) (v := ?_) (a' := ?_) #[true, true, true, true, false, false, false, false, false, true, false, false, false, false, false, false, false] rfl rfl (fK jf.out AQ.out (by kernel_rfl)) (fun _ _ _ h => h) (Or.inl ⟨by rfl, ?_⟩) hHeld ?_ ?_
 rotate_left
 · rintro w' ⟨s0, s1, s2, s3, s4, s5⟩
   go_simp
   with_reducible rfl
 rotate_left
 · simp only [Act.put, List.setIfInBounds_toArray, List.set_cons_zero, List.set_cons_succ, bK, bU]
   rfl
 refine vJ (i := 4) (N := some 11) #[true, true, true, true, true, false, false, false, false, true, false, false, false, false, false, false, false] rfl rfl (kW jf.out (by kernel_rfl)) (by decide) (fun K hK => ?_)
 refine qj Try.func101 (by kernel_rfl) rfl #[.agg #[.int .i64 bJ, .int .i64 bM, .slice fA bD.length fF], .agg #[.int .i64 jK, .int .i64 jJ, .slice ny jh.length nU]] (by rfl) rfl rfl (by (try simp only [List.map_toArray, List.map_cons, List.map_nil]); first | done | rfl | (simp only [List.length_drop, List.length_take]; rfl)) ?_
 with_reducible refine (gz.calls bJ bM _ _ bD jK jJ _ _ jh t106 t107 t108 t111 t112 _ ?jv ?jr ?qL ?yY A4.out).mono ?_
 (case jv => exact Kd.Di 0 wJ.out (by repeat (first | (with_reducible first | exact HK.out | apply aW.lM | apply bW | apply cO | apply bY | refine aX ?_ jH.out _ | refine aX ?_ kT.out _ | refine aX ?_ mY.out _) | exact HK.out)) zM)
 (case jr => exact wL.out)
 (case qL => exact Kd.Di 0 TK.out (by repeat (first | (with_reducible first | exact HK.out | apply aW.lM | apply bW | apply cO | apply bY | refine aX ?_ jH.out _ | refine aX ?_ kT.out _ | refine aX ?_ mY.out _) | exact HK.out)) zL)
 (case yY => exact TS.out)
 rintro e Gn ⟨v109, rfl, ho0, hb⟩
 refine ⟨_, rfl, ?_⟩
 have bu := aj.mk (Kd.mX ho0 (gU (w := w) (g := g) (row := none) (by repeat (first | (with_reducible first | exact HK.out | apply aW.lM | apply bW | apply cO | apply bY | refine aX ?_ jH.out _ | refine aX ?_ kT.out _ | refine aX ?_ mY.out _) | exact HK.out))))
 have fE := aj.mk (ay.below (by repeat (first | (with_reducible first | exact HI0.out | apply ay.alloc | apply ay.drewN | apply ay.drew | apply ay.fM | refine ay.far ?_ jB.out _ | refine ay.far ?_ lF.out _ | refine ay.far ?_ pU.out _) | exact HI0.out)) hb)
 have fD := aj.mk (bG (g := jw) (o := .cells #[.int .i64 bJ, .int .i64 bM, .slice fA bD.length fF] 31 (0, 0)) (by (with_reducible repeat (first | refine aB ?_ _ | refine aH ?_ | refine aC ?_ _)); exact dF.out) hb)
 have iq := aj.mk (bG (g := kD) (o := .cells #[.int .i64 jK, .int .i64 jJ, .slice ny jh.length nU] 31 (0, 0)) (by (with_reducible repeat (first | refine aB ?_ _ | refine aH ?_ | refine aC ?_ _)); exact dK.out) hb)
 have jP := aj.mk (bG (g := dX) (o := .cells #[.int .i64 0, .int .i64 0, .slice none 0 0] 31 (0, 0)) (by (with_reducible repeat (first | refine aB ?_ _ | refine aH ?_ | refine aC ?_ _)); exact gp.out) hb)
 have ku := aj.mk (aW.trans (by repeat (first | (with_reducible first | exact HK.out | apply aW.lM | apply bW | apply cO | apply bY | refine aX ?_ jH.out _ | refine aX ?_ kT.out _ | refine aX ?_ mY.out _) | exact HK.out)) (aW.of_below hb g none) (.inl rfl))
 have kM := aj.mk (aO (by repeat (first | (with_reducible first | exact HB.out | apply ak | apply ah | apply au | refine aG ?_ (ay.ge HI0.out) | refine aG ?_ uy.out | refine aG ?_ wQ.out | refine aG ?_ xR.out) | exact HB.out)) hb)
 clear HI0
 clear dF
 clear dK
 clear gp
 clear HK
 clear HB
 have um := bu
 have HI0 := fE
 have dF := fD
 have dK := iq
 have gp := jP
 have HK := ku
 have HB := kM
 clear bu fE fD iq jP ku kM
 (try clear hb)
 (try clear hb2)
 (try clear hk)
 (try clear hi)
 (try clear ho0)
 obtain ⟨Ph, NS, QF⟩ := Kd.kH um.out
 (first | subst QF | (injection QF with zT H9 zS; have H7 := zT.symm; have H6 := zS.symm; clear zT H9 zS; subst H7; subst H6))
 refine hK.out _ _ ⟨(aA dF.out 0).trans rfl, (aA dF.out 1).trans rfl, (aA dF.out 2).trans rfl, (aA dK.out 0).trans rfl, (aA dK.out 1).trans rfl, (aA dK.out 2).trans rfl⟩ (fun hHeld => ?_)
 clear hK K
 refine qc (a' := ?_) ?_ ?_
 rotate_left
 · show Act.put _ (some 11) _ = _
   simp only [Act.put, List.setIfInBounds_toArray, List.set_cons_zero, List.set_cons_succ, bK, bU]
   rfl
 refine dV (i := 5) (N := some 12) (v := ?_) (a' := ?_) #[true, true, true, true, true, true, false, false, false, true, false, false, false, false, false, false, false] rfl rfl (dn jf.out (by kernel_rfl)) (fun _ _ _ h => h) (Or.inl ⟨by rfl, ?_⟩) ?_ ?_
 rotate_left
 · intro w'
   go_simp
   with_reducible rfl
 rotate_left
 · simp only [Act.put, List.setIfInBounds_toArray, List.set_cons_zero, List.set_cons_succ, bK, bU]
   rfl
 refine dV (i := 6) (N := some 13) (v := ?_) (a' := ?_) #[true, true, true, true, true, true, true, false, false, true, false, false, false, false, false, false, false] rfl rfl (dn jf.out (by kernel_rfl)) (fun _ _ _ h => h) (Or.inl ⟨by rfl, ?_⟩) ?_ ?_
 rotate_left
 · intro w'
   go_simp
   with_reducible rfl
 rotate_left
 · simp only [Act.put, List.setIfInBounds_toArray, List.set_cons_zero, List.set_cons_succ, bK, bU]
   rfl
 refine dV (i := 7) (N := some 14) (v := ?_) (a' := ?_) #[true, true, true, true, true, true, true, true, false, true, false, false, false, false, false, false, false] rfl rfl (dn jf.out (by kernel_rfl)) (fun _ _ _ h => h) (Or.inl ⟨by rfl, ?_⟩) ?_ ?_
 rotate_left
 · intro w'
   go_simp
   with_reducible rfl
 rotate_left
 · simp only [Act.put, List.setIfInBounds_toArray, List.set_cons_zero, List.set_cons_succ, bK, bU]
   rfl
 refine vJ (i := 8) (N := some 15) #[true, true, true, true, true, true, true, true, true, true, false, false, false, false, false, false, false] rfl rfl (kW jf.out (by kernel_rfl)) (by decide) (fun K hK => ?_)
 refine qj Try.func100 (by kernel_rfl) rfl #[.pointer (some ⟨g, 0, none⟩), .agg #[.int .i64 t106, .int .i64 t107, .slice Ph t108.length NS], .bool t111, .int .i64 t112] (by rfl) rfl rfl (by (try simp only [List.map_toArray, List.map_cons, List.map_nil]); first | done | rfl | (simp only [List.length_drop, List.length_take]; rfl)) ?_
 with_reducible refine (bT.calls g kE t106 t107 (fun k_ => some k_ = (.slice Ph t108.length NS : Value).ownBlock) (.slice Ph t108.length NS) t108 t111 t112 t113 t114 t115 t118 w0 _ ?jv ?jr ?qL A5.out).mono ?_
 (case jv => repeat (first | (with_reducible first | exact HI0.out | apply ay.alloc | apply ay.drewN | apply ay.drew | apply ay.fM | refine ay.far ?_ jB.out _ | refine ay.far ?_ lF.out _ | refine ay.far ?_ pU.out _) | exact HI0.out))
 (case jr => repeat (first | (with_reducible first | exact HB.out | apply ak | apply ah | apply au | refine aG ?_ (ay.ge HI0.out) | refine aG ?_ uy.out | refine aG ?_ wQ.out | refine aG ?_ xR.out) | exact HB.out))
 (case qL => exact Kd.mX (Kd.D_ rfl um.out) HL.out)
 rintro e Zm ⟨abG, rfl, ho0, hi, hb, hkp⟩
 refine ⟨_, rfl, ?_⟩
 have bu := aj.mk (hi)
 have fE := aj.mk (nG (by (with_reducible repeat (first | refine aB ?_ _ | refine aH ?_ | refine aC ?_ _)); exact dF.out) hkp (fun hs_ => Or.elim hs_ (fun hs_ => (fun e_ => (Kd.yM um.out dF.out (by decide)) e_) hs_) (fun e_ => Eh.out e_)))
 have fD := aj.mk (nG (by (with_reducible repeat (first | refine aB ?_ _ | refine aH ?_ | refine aC ?_ _)); exact dK.out) hkp (fun hs_ => Or.elim hs_ (fun hs_ => (fun e_ => (Kd.yM um.out dK.out (by decide)) e_) hs_) (fun e_ => Ef.out e_)))
 have iq := aj.mk (nG (by (with_reducible repeat (first | refine aB ?_ _ | refine aH ?_ | refine aC ?_ _)); exact gp.out) hkp (fun hs_ => Or.elim hs_ (fun hs_ => (fun e_ => (Kd.yM um.out gp.out (by decide)) e_) hs_) (fun e_ => Ee.out e_)))
 have jP := aj.mk (Kd.jo (ok' := fun k_ => True) (Kd.Ea (d := (Kd.int .i64)) (b := w0.heap.size) (b' := w.heap.size) (fun _ _ _ _ h_ => h_) ho0 (fun k_ e_ => Or.elim (ho0.1 k_ e_) (fun hs_ => (fun e_ => Kd.qF um.out k_ e_.symm) hs_) (fun He => Nat.le_trans (gU (w := w) (g := g) (row := none) (by repeat (first | (with_reducible first | exact HK.out | apply aW.lM | apply bW | apply cO | apply bY | refine aX ?_ jH.out _ | refine aX ?_ kT.out _ | refine aX ?_ mY.out _) | exact HK.out))) He))) (fun k_ zG => trivial))
 have ku := aj.mk (Kept.Ld (by repeat (first | (with_reducible first | exact HK.out | apply aW.lM | apply bW | apply cO | apply bY | refine aX ?_ jH.out _ | refine aX ?_ kT.out _ | refine aX ?_ mY.out _) | exact HK.out)) hkp (fun k_ hs_ => Or.elim hs_ (fun hs_ => (fun e_ => .inr (Kd.qF um.out k_ e_.symm)) hs_) (fun e_ => .inl e_)))
 have kM := aj.mk (hb)
 clear HI0
 clear dF
 clear dK
 clear gp
 clear HK
 clear HB
 clear um
 have HI0 := bu
 have dF := fE
 have dK := fD
 have gp := iq
 have kZ := jP
 have HK := ku
 have HB := kM
 clear bu fE fD iq jP ku kM
 (try clear hb)
 (try clear hkp)
 (try clear ho0)
 refine hK.out _ _ ⟨(aA dF.out 0).trans rfl, (aA dF.out 1).trans rfl, (aA dF.out 2).trans rfl, (aA dK.out 0).trans rfl, (aA dK.out 1).trans rfl, (aA dK.out 2).trans rfl⟩ (fun hHeld => ?_)
 clear hK K
 refine qc (a' := ?_) ?_ ?_
 rotate_left
 · show Act.put _ (some 15) _ = _
   simp only [Act.put, List.setIfInBounds_toArray, List.set_cons_zero, List.set_cons_succ, bK, bU]
   rfl
 refine vJ (i := 10) (N := some 17) #[true, true, true, true, true, true, true, true, true, true, true, false, false, false, false, false, false] rfl rfl (kW jf.out (by kernel_rfl)) (by decide) (fun K hK => ?_)
 refine qj Try.func77 (by kernel_rfl) rfl #[.agg #[.int .i64 bJ, .int .i64 bM, .slice fA bD.length fF]] (by rfl) rfl rfl (by (try simp only [List.map_toArray, List.map_cons, List.map_nil]); first | done | rfl | (simp only [List.length_drop, List.length_take]; rfl)) ?_
 with_reducible refine (iE.calls bJ bM _ _ bD t119 t120 t121 _ ?jv ?jr A6.out).mono ?_
 (case jv => exact Kd.Di 0 wJ.out (by repeat (first | (with_reducible first | exact HK.out | apply aW.lM | apply bW | apply cO | apply bY | refine aX ?_ jH.out _ | refine aX ?_ kT.out _ | refine aX ?_ mY.out _) | exact HK.out)) zM)
 (case jr => exact wL.out)
 rintro e w16 ⟨abE, rfl, ho0, hb⟩
 refine ⟨_, rfl, ?_⟩
 have bu := aj.mk (Kd.wI (by (with_reducible repeat (first | apply Kd.fC | apply Kd.fB | apply Kd.gX)); exact kZ.out) (Kd.qF ho0) hb)
 have fE := aj.mk (Kd.mX (Kd.C_ ho0 (Kd.IJ (by (with_reducible repeat (first | apply Kd.fC | apply Kd.fB | apply Kd.gX)); exact kZ.out))) (gU (w := w) (g := g) (row := none) (by repeat (first | (with_reducible first | exact HK.out | apply aW.lM | apply bW | apply cO | apply bY | refine aX ?_ jH.out _ | refine aX ?_ kT.out _ | refine aX ?_ mY.out _) | exact HK.out))))
 have fD := aj.mk (ay.below (by repeat (first | (with_reducible first | exact HI0.out | apply ay.alloc | apply ay.drewN | apply ay.drew | apply ay.fM | refine ay.far ?_ jB.out _ | refine ay.far ?_ lF.out _ | refine ay.far ?_ pU.out _) | exact HI0.out)) hb)
 have iq := aj.mk (bG (g := jw) (o := .cells #[.int .i64 bJ, .int .i64 bM, .slice fA bD.length fF] 31 (0, 0)) (by (with_reducible repeat (first | refine aB ?_ _ | refine aH ?_ | refine aC ?_ _)); exact dF.out) hb)
 have jP := aj.mk (bG (g := kD) (o := .cells #[.int .i64 jK, .int .i64 jJ, .slice ny jh.length nU] 31 (0, 0)) (by (with_reducible repeat (first | refine aB ?_ _ | refine aH ?_ | refine aC ?_ _)); exact dK.out) hb)
 have ku := aj.mk (bG (g := dX) (o := .cells #[.int .i64 0, .int .i64 0, .slice none 0 0] 31 (0, 0)) (by (with_reducible repeat (first | refine aB ?_ _ | refine aH ?_ | refine aC ?_ _)); exact gp.out) hb)
 have kM := aj.mk (aW.trans (by repeat (first | (with_reducible first | exact HK.out | apply aW.lM | apply bW | apply cO | apply bY | refine aX ?_ jH.out _ | refine aX ?_ kT.out _ | refine aX ?_ mY.out _) | exact HK.out)) (aW.of_below hb g none) (.inl rfl))
 have qg := aj.mk (aO (by repeat (first | (with_reducible first | exact HB.out | apply ak | apply ah | apply au | refine aG ?_ (ay.ge HI0.out) | refine aG ?_ uy.out | refine aG ?_ wQ.out | refine aG ?_ xR.out) | exact HB.out)) hb)
 clear kZ
 clear HI0
 clear dF
 clear dK
 clear gp
 clear HK
 clear HB
 have kZ := bu
 have og := fE
 have HI0 := fD
 have dF := iq
 have dK := jP
 have gp := ku
 have HK := kM
 have HB := qg
 clear bu fE fD iq jP ku kM qg
 (try clear hb)
 (try clear hb2)
 (try clear hk)
 (try clear hi)
 (try clear ho0)
 obtain ⟨Pg, NM, QE⟩ := Kd.kH kZ.out
 (first | subst QE | (injection QE with zT H9 zS; have H7 := zT.symm; have H6 := zS.symm; clear zT H9 zS; subst H7; subst H6))
 obtain ⟨Pe, J5, Ig⟩ := Kd.kH og.out
 (first | subst Ig | (injection Ig with zT H9 zS; have H7 := zT.symm; have H6 := zS.symm; clear zT H9 zS; subst H7; subst H6))
 refine hK.out _ _ ⟨(aA dF.out 0).trans rfl, (aA dF.out 1).trans rfl, (aA dF.out 2).trans rfl, (aA dK.out 0).trans rfl, (aA dK.out 1).trans rfl, (aA dK.out 2).trans rfl⟩ (fun hHeld => ?_)
 clear hK K
 refine qc (a' := ?_) ?_ ?_
 rotate_left
 · show Act.put _ (some 17) _ = _
   simp only [Act.put, List.setIfInBounds_toArray, List.set_cons_zero, List.set_cons_succ, bK, bU]
   rfl
 refine vJ (i := 11) (N := some 18) #[true, true, true, true, true, true, true, true, true, true, true, true, false, false, false, false, false] rfl rfl (kW jf.out (by kernel_rfl)) (by decide) (fun K hK => ?_)
 refine qj Try.func101 (by kernel_rfl) rfl #[.agg #[.int .i64 t113, .int .i64 t114, .slice Pg t115.length NM], .agg #[.int .i64 t119, .int .i64 t120, .slice Pe t121.length J5]] (by rfl) rfl rfl (by (try simp only [List.map_toArray, List.map_cons, List.map_nil]); first | done | rfl | (simp only [List.length_drop, List.length_take]; rfl)) ?_
 with_reducible refine (gz.calls t113 t114 _ _ t115 t119 t120 _ _ t121 t124 t125 t126 t129 t130 _ ?jv ?jr ?qL ?yY A7.out).mono ?_
 (case jv => repeat (first | exact (Kd.mg kZ.out).2.2 | (with_reducible refine Kd.lH ?_ _) | (with_reducible refine Kd.lG ?_ _) | (with_reducible refine Kd.nY ?_)))
 (case jr => exact (Kd.mg kZ.out).2.1)
 (case qL => repeat (first | exact (Kd.mg og.out).2.2 | (with_reducible refine Kd.lH ?_ _) | (with_reducible refine Kd.lG ?_ _) | (with_reducible refine Kd.nY ?_)))
 (case yY => exact (Kd.mg og.out).2.1)
 rintro e Zl ⟨v127, rfl, ho0, hb⟩
 refine ⟨_, rfl, ?_⟩
 have bu := aj.mk (Kd.wI (by (with_reducible repeat (first | apply Kd.fC | apply Kd.fB | apply Kd.gX)); exact kZ.out) (Kd.qF ho0) hb)
 have fE := aj.mk (Kd.wI (by (with_reducible repeat (first | apply Kd.fC | apply Kd.fB | apply Kd.gX)); exact og.out) (Kd.qF ho0) hb)
 have fD := aj.mk (Kd.mX (Kd.C_ (Kd.C_ ho0 (Kd.IJ (by (with_reducible repeat (first | apply Kd.fC | apply Kd.fB | apply Kd.gX)); exact kZ.out))) (Kd.IJ (by (with_reducible repeat (first | apply Kd.fC | apply Kd.fB | apply Kd.gX)); exact og.out))) (gU (w := w) (g := g) (row := none) (by repeat (first | (with_reducible first | exact HK.out | apply aW.lM | apply bW | apply cO | apply bY | refine aX ?_ jH.out _ | refine aX ?_ kT.out _ | refine aX ?_ mY.out _) | exact HK.out))))
 have iq := aj.mk (ay.below (by repeat (first | (with_reducible first | exact HI0.out | apply ay.alloc | apply ay.drewN | apply ay.drew | apply ay.fM | refine ay.far ?_ jB.out _ | refine ay.far ?_ lF.out _ | refine ay.far ?_ pU.out _) | exact HI0.out)) hb)
 have jP := aj.mk (bG (g := jw) (o := .cells #[.int .i64 bJ, .int .i64 bM, .slice fA bD.length fF] 31 (0, 0)) (by (with_reducible repeat (first | refine aB ?_ _ | refine aH ?_ | refine aC ?_ _)); exact dF.out) hb)
 have ku := aj.mk (bG (g := kD) (o := .cells #[.int .i64 jK, .int .i64 jJ, .slice ny jh.length nU] 31 (0, 0)) (by (with_reducible repeat (first | refine aB ?_ _ | refine aH ?_ | refine aC ?_ _)); exact dK.out) hb)
 have kM := aj.mk (bG (g := dX) (o := .cells #[.int .i64 0, .int .i64 0, .slice none 0 0] 31 (0, 0)) (by (with_reducible repeat (first | refine aB ?_ _ | refine aH ?_ | refine aC ?_ _)); exact gp.out) hb)
 have qg := aj.mk (aW.trans (by repeat (first | (with_reducible first | exact HK.out | apply aW.lM | apply bW | apply cO | apply bY | refine aX ?_ jH.out _ | refine aX ?_ kT.out _ | refine aX ?_ mY.out _) | exact HK.out)) (aW.of_below hb g none) (.inl rfl))
 have tJ := aj.mk (aO (by repeat (first | (with_reducible first | exact HB.out | apply ak | apply ah | apply au | refine aG ?_ (ay.ge HI0.out) | refine aG ?_ uy.out | refine aG ?_ wQ.out | refine aG ?_ xR.out) | exact HB.out)) hb)
 clear kZ
 clear og
 clear HI0
 clear dF
 clear dK
 clear gp
 clear HK
 clear HB
 have kZ := bu
 have og := fE
 have uk := fD
 have HI0 := iq
 have dF := jP
 have dK := ku
 have gp := kM
 have HK := qg
 have HB := tJ
 clear bu fE fD iq jP ku kM qg tJ
 (try clear hb)
 (try clear hb2)
 (try clear hk)
 (try clear hi)
 (try clear ho0)
 obtain ⟨KN, FM, Ie⟩ := Kd.kH uk.out
 (first | subst Ie | (injection Ie with zT H9 zS; have H7 := zT.symm; have H6 := zS.symm; clear zT H9 zS; subst H7; subst H6))
 refine hK.out _ _ ⟨(aA dF.out 0).trans rfl, (aA dF.out 1).trans rfl, (aA dF.out 2).trans rfl, (aA dK.out 0).trans rfl, (aA dK.out 1).trans rfl, (aA dK.out 2).trans rfl⟩ (fun hHeld => ?_)
 clear hK K
 refine qc (a' := ?_) ?_ ?_
 rotate_left
 · show Act.put _ (some 18) _ = _
   simp only [Act.put, List.setIfInBounds_toArray, List.set_cons_zero, List.set_cons_succ, bK, bU]
   rfl
 refine dV (i := 12) (N := some 19) (v := ?_) (a' := ?_) #[true, true, true, true, true, true, true, true, true, true, true, true, true, false, false, false, false] rfl rfl (dn jf.out (by kernel_rfl)) (fun _ _ _ h => h) (Or.inl ⟨by rfl, ?_⟩) ?_ ?_
 rotate_left
 · intro w'
   go_simp
   with_reducible rfl
 rotate_left
 · simp only [Act.put, List.setIfInBounds_toArray, List.set_cons_zero, List.set_cons_succ, bK, bU]
   rfl
 refine dV (i := 13) (N := some 20) (v := ?_) (a' := ?_) #[true, true, true, true, true, true, true, true, true, true, true, true, true, true, false, false, false] rfl rfl (dn jf.out (by kernel_rfl)) (fun _ _ _ h => h) (Or.inl ⟨by rfl, ?_⟩) ?_ ?_
 rotate_left
 · intro w'
   go_simp
   with_reducible rfl
 rotate_left
 · simp only [Act.put, List.setIfInBounds_toArray, List.set_cons_zero, List.set_cons_succ, bK, bU]
   rfl
 refine dV (i := 14) (N := some 21) (v := ?_) (a' := ?_) #[true, true, true, true, true, true, true, true, true, true, true, true, true, true, true, false, false] rfl rfl (dn jf.out (by kernel_rfl)) (fun _ _ _ h => h) (Or.inl ⟨by rfl, ?_⟩) ?_ ?_
 rotate_left
 · intro w'
   go_simp
   with_reducible rfl
 rotate_left
 · simp only [Act.put, List.setIfInBounds_toArray, List.set_cons_zero, List.set_cons_succ, bK, bU]
   rfl
 refine vJ (i := 15) (N := some 22) #[true, true, true, true, true, true, true, true, true, true, true, true, true, true, true, true, false] rfl rfl (kW jf.out (by kernel_rfl)) (by decide) (fun K hK => ?_)
 refine qj Try.func100 (by kernel_rfl) rfl #[.pointer (some ⟨g, 0, none⟩), .agg #[.int .i64 t124, .int .i64 t125, .slice KN t126.length FM], .bool t129, .int .i64 t130] (by rfl) rfl rfl (by (try simp only [List.map_toArray, List.map_cons, List.map_nil]); first | done | rfl | (simp only [List.length_drop, List.length_take]; rfl)) ?_
 with_reducible refine (bT.calls g t118 t124 t125 (fun k_ => some k_ = (.slice KN t126.length FM : Value).ownBlock) (.slice KN t126.length FM) t126 t129 t130 t131 t132 t133 t136 w0 _ ?jv ?jr ?qL A8.out).mono ?_
 (case jv => repeat (first | (with_reducible first | exact HI0.out | apply ay.alloc | apply ay.drewN | apply ay.drew | apply ay.fM | refine ay.far ?_ jB.out _ | refine ay.far ?_ lF.out _ | refine ay.far ?_ pU.out _) | exact HI0.out))
 (case jr => repeat (first | (with_reducible first | exact HB.out | apply ak | apply ah | apply au | refine aG ?_ (ay.ge HI0.out) | refine aG ?_ uy.out | refine aG ?_ wQ.out | refine aG ?_ xR.out) | exact HB.out))
 (case qL => exact Kd.mX (Kd.D_ rfl uk.out) HL.out)
 rintro e KR ⟨PV, rfl, ho0, hi, hb, hkp⟩
 refine ⟨_, rfl, ?_⟩
 have bu := aj.mk (hi)
 have fE := aj.mk (nG (by (with_reducible repeat (first | refine aB ?_ _ | refine aH ?_ | refine aC ?_ _)); exact dF.out) hkp (fun hs_ => Or.elim hs_ (fun hs_ => (fun e_ => (Kd.yM uk.out dF.out (by decide)) e_) hs_) (fun e_ => Eh.out e_)))
 have fD := aj.mk (nG (by (with_reducible repeat (first | refine aB ?_ _ | refine aH ?_ | refine aC ?_ _)); exact dK.out) hkp (fun hs_ => Or.elim hs_ (fun hs_ => (fun e_ => (Kd.yM uk.out dK.out (by decide)) e_) hs_) (fun e_ => Ef.out e_)))
 have iq := aj.mk (nG (by (with_reducible repeat (first | refine aB ?_ _ | refine aH ?_ | refine aC ?_ _)); exact gp.out) hkp (fun hs_ => Or.elim hs_ (fun hs_ => (fun e_ => (Kd.yM uk.out gp.out (by decide)) e_) hs_) (fun e_ => Ee.out e_)))
 have jP := aj.mk (Kd.jo (ok' := fun k_ => some k_ ≠ (.slice Pe t121.length J5 : Value).ownBlock ∧ some k_ ≠ (PV : Value).ownBlock) (Kd.Eb ((ay.apart HI0.out kZ.out (by decide))) hkp (fun k_ zG hs_ => Or.elim hs_ (fun hs_ => (zG.1.2) hs_) (fun e_ => (zG.2) e_))) (fun k_ zG => ⟨zG.1.1.1.2, fun e_ => Or.elim (ho0.1 k_ e_.symm) (fun hs_ => zG.2.1 (.inl hs_)) (fun He => Nat.not_le.2 zG.2.2 He)⟩))
 have ku := aj.mk (Kd.jo (ok' := fun k_ => some k_ ≠ (.slice Pg t115.length NM : Value).ownBlock ∧ some k_ ≠ (PV : Value).ownBlock) (Kd.Eb ((ay.apart HI0.out og.out (by decide))) hkp (fun k_ zG hs_ => Or.elim hs_ (fun hs_ => (zG.1.2) hs_) (fun e_ => (zG.2) e_))) (fun k_ zG => ⟨zG.1.1.1.2, fun e_ => Or.elim (ho0.1 k_ e_.symm) (fun hs_ => zG.2.1 (.inl hs_)) (fun He => Nat.not_le.2 zG.2.2 He)⟩))
 have kM := aj.mk (Kd.jo (ok' := fun k_ => some k_ ≠ (.slice Pg t115.length NM : Value).ownBlock ∧ some k_ ≠ (.slice Pe t121.length J5 : Value).ownBlock) (Kd.Ea (d := (Kd.int .i64)) (b := w0.heap.size) (b' := w.heap.size) (fun _ _ _ _ h_ => h_) ho0 (fun k_ e_ => Or.elim (ho0.1 k_ e_) (fun hs_ => (fun e_ => Kd.qF uk.out k_ e_.symm) hs_) (fun He => Nat.le_trans (gU (w := w) (g := g) (row := none) (by repeat (first | (with_reducible first | exact HK.out | apply aW.lM | apply bW | apply cO | apply bY | refine aX ?_ jH.out _ | refine aX ?_ kT.out _ | refine aX ?_ mY.out _) | exact HK.out))) He))) (fun k_ zG => ⟨Or.elim zG (fun hs_ => fun e_ => ((((ay.apart HI0.out kZ.out (by decide))).1 k_ e_.symm).1.2) hs_) (fun He => (Kd.fresh' (Kd.IJ (by (with_reducible repeat (first | apply Kd.fC | apply Kd.fB | apply Kd.gX)); exact kZ.out)) k_ He)), Or.elim zG (fun hs_ => fun e_ => ((((ay.apart HI0.out og.out (by decide))).1 k_ e_.symm).1.2) hs_) (fun He => (Kd.fresh' (Kd.IJ (by (with_reducible repeat (first | apply Kd.fC | apply Kd.fB | apply Kd.gX)); exact og.out)) k_ He))⟩))
 have qg := aj.mk (Kept.Ld (by repeat (first | (with_reducible first | exact HK.out | apply aW.lM | apply bW | apply cO | apply bY | refine aX ?_ jH.out _ | refine aX ?_ kT.out _ | refine aX ?_ mY.out _) | exact HK.out)) hkp (fun k_ hs_ => Or.elim hs_ (fun hs_ => (fun e_ => .inr (Kd.qF uk.out k_ e_.symm)) hs_) (fun e_ => .inl e_)))
 have tJ := aj.mk (hb)
 clear HI0
 clear dF
 clear dK
 clear gp
 clear kZ
 clear og
 clear HK
 clear HB
 clear uk
 have HI0 := bu
 have dF := fE
 have dK := fD
 have gp := iq
 have kZ := jP
 have og := ku
 have L9 := kM
 have HK := qg
 have HB := tJ
 clear bu fE fD iq jP ku kM qg tJ
 (try clear hb)
 (try clear hkp)
 (try clear ho0)
 obtain ⟨Uh, QJ, QD⟩ := Kd.kH L9.out
 (first | subst QD | (injection QD with zT H9 zS; have H7 := zT.symm; have H6 := zS.symm; clear zT H9 zS; subst H7; subst H6))
 refine hK.out _ _ ⟨(aA dF.out 0).trans rfl, (aA dF.out 1).trans rfl, (aA dF.out 2).trans rfl, (aA dK.out 0).trans rfl, (aA dK.out 1).trans rfl, (aA dK.out 2).trans rfl⟩ (fun hHeld => ?_)
 clear hK K
 refine qc (a' := ?_) ?_ ?_
 rotate_left
 · show Act.put _ (some 22) _ = _
   simp only [Act.put, List.setIfInBounds_toArray, List.set_cons_zero, List.set_cons_succ, bK, bU]
   rfl
 refine vJ (i := 16) (N := none) #[true, true, true, true, true, true, true, true, true, true, true, true, true, true, true, true, true] rfl rfl (kW jf.out (by kernel_rfl)) (by decide) (fun K hK => ?_)
 have abY : KR.cell? ⟨dX, 0, none⟩ = some (.int .i64 0) := (aA gp.out 0).trans rfl
 have ZZ := aS gp.out 0
 have UN := fJ.out
 have UM := fH.out
 have UZ := sV.out
 have UY := sU.out
 have abX : KR.cell? ⟨dX, 1, none⟩ = some (.int .i64 0) := (aA gp.out 1).trans rfl
 have ZY := aS gp.out 1
 have UL := fJ.out
 have UK := fH.out
 have UU := sV.out
 have UR := sU.out
 have abW : KR.cell? ⟨dX, 2, none⟩ = some (.slice none 0 0) := (aA gp.out 2).trans rfl
 have ZX := aS gp.out 2
 have UJ := fJ.out
 have UI := fH.out
 have UQ := sV.out
 have UO := sU.out
 refine K_ (w1 := ?_) (by rfl) rfl ?_ ?_
 rotate_left
 · go_simp
   rfl
 refine hK.out _ _ ⟨((cell_far (p := ⟨dX, _, none⟩) fJ.out _).trans (((cell_far (p := ⟨dX, _, none⟩) fJ.out _).trans (((cell_far (p := ⟨dX, _, none⟩) fJ.out _).trans (hHeld.1)))))), ((cell_far (p := ⟨dX, _, none⟩) fJ.out _).trans (((cell_far (p := ⟨dX, _, none⟩) fJ.out _).trans (((cell_far (p := ⟨dX, _, none⟩) fJ.out _).trans (hHeld.2.1)))))), ((cell_far (p := ⟨dX, _, none⟩) fJ.out _).trans (((cell_far (p := ⟨dX, _, none⟩) fJ.out _).trans (((cell_far (p := ⟨dX, _, none⟩) fJ.out _).trans (hHeld.2.2.1)))))), ((cell_far (p := ⟨dX, _, none⟩) fH.out _).trans (((cell_far (p := ⟨dX, _, none⟩) fH.out _).trans (((cell_far (p := ⟨dX, _, none⟩) fH.out _).trans (hHeld.2.2.2.1)))))), ((cell_far (p := ⟨dX, _, none⟩) fH.out _).trans (((cell_far (p := ⟨dX, _, none⟩) fH.out _).trans (((cell_far (p := ⟨dX, _, none⟩) fH.out _).trans (hHeld.2.2.2.2.1)))))), ((cell_far (p := ⟨dX, _, none⟩) fH.out _).trans (((cell_far (p := ⟨dX, _, none⟩) fH.out _).trans (((cell_far (p := ⟨dX, _, none⟩) fH.out _).trans (hHeld.2.2.2.2.2))))))⟩ (fun hHeld => ?_)
 clear hK K
 refine DN (uQ jf.out (by kernel_rfl)) ?_
 try go_wp2
 refine bodyPost_ret (results_cell_row rfl _ _ dX 31 #[.int .i64 t131, .int .i64 t132, .slice Uh t133.length QJ] (0, 0) _ rfl (by (with_reducible repeat (first | refine aB ?_ _ | refine aH ?_ | refine aC ?_ _)); refine dS (cs := #[.int .i64 t131, .int .i64 t132, .slice none 0 0]) ?_ 2 _ rfl; (with_reducible repeat (first | refine aB ?_ _ | refine aH ?_ | refine aC ?_ _)); refine dS (cs := #[.int .i64 t131, .int .i64 0, .slice none 0 0]) ?_ 1 _ rfl; (with_reducible repeat (first | refine aB ?_ _ | refine aH ?_ | refine aC ?_ _)); refine dS (cs := #[.int .i64 0, .int .i64 0, .slice none 0 0]) ?_ 0 _ rfl; (with_reducible repeat (first | refine aB ?_ _ | refine aH ?_ | refine aC ?_ _)); exact gp.out) Try.underlying31 rfl (by kernel_rfl)) rfl ?_
 exact ⟨_, by first | rfl | (simp [aN, aK] <;> rfl) | (simp [*, aN, aK] <;> rfl), by (with_reducible repeat (first | apply Kd.fC | apply Kd.fB | apply Kd.gX)); exact Kd.jo (Kd.kS (p := ⟨dX, 2, none⟩) (Kd.kS (p := ⟨dX, 1, none⟩) (Kd.kS (p := ⟨dX, 0, none⟩) (Kd.pO L9.out gp.out (by decide)) (fun _ hk => hk.2) (.int .i64 t131)) (fun _ hk => hk.2) (.int .i64 t132)) (fun _ hk => hk.2) (.slice Uh t133.length QJ)) (fun _ hk => trivial), by repeat (first | (with_reducible first | exact HI0.out | apply ay.alloc | apply ay.drewN | apply ay.drew | apply ay.fM | refine ay.far ?_ jB.out _ | refine ay.far ?_ lF.out _ | refine ay.far ?_ pU.out _) | exact HI0.out), by repeat (first | (with_reducible first | exact HB.out | apply ak | apply ah | apply au | refine aG ?_ (ay.ge HI0.out) | refine aG ?_ uy.out | refine aG ?_ wQ.out | refine aG ?_ xR.out) | exact HB.out), by repeat (first | (with_reducible first | exact HK.out | apply aW.lM | apply bW | apply cO | apply bY | refine aX ?_ jH.out _ | refine aX ?_ kT.out _ | refine aX ?_ mY.out _) | exact HK.out)⟩
end Go.Proofs.Ytnijhjbcjeohhaa.PR

