import Derived.Test.YtcfobekkchhbbaaGreatY5
import Derived.Laws.MakeOwn
import Derived.Laws.IdiomCopy
import Derived.Test.YtcfobekkchhbbaaGreatProg
import Derived.Test.YtcfobekkchhbbaaGreatY1
/- Joined and thinned by a program of this session's own (wip/pack2.py) out of its texts (wip/ of its repo); parts were laid by its own program (wip/print-patch.py over the kit's print) out of the translation; Lean checks all. -/
set_option maxRecDepth 100000
set_option maxHeartbeats 8000000
namespace Go.Proofs.YtcfobekkchhbbaaGreat.KK
open Go.RowKit Go.Proofs.af.aQ Go.Proofs.af.a_ Go.Proofs.af.bg
set_option linter.unusedVariables false
set_option linter.unusedSimpArgs false
def kS (r c : Nat) (l : List Int) (q : Int) : List Int := upto c (fun i k => (jD (l.getD (i * c + k) 0) q).1) r
def scaleB (r c : Nat) (l : List Int) (q : Int) : Bool := uG c (fun i k => (jD (l.getD (i * c + k) 0) q).2) r
theorem QS : Enters 209 := enters Tryz.func209 rfl rfl
theorem QT : Enters 186 := enters Tryz.func186 rfl rfl
theorem Il (r c : Nat) (A : Option Addr) (cp : Nat) (g : Nat) (q : Int) (l : List Int) (w : World) (hr : r ≤ 8) (hc : c ≤ 8) (hl : l.length = r * c) (hA : Rd w A l)
 (R : Row w g 29 #[I r, I c, (.slice A l.length cp)]) (R' : Row w (g + 1) 22 #[I q]) :
 xZ w 209 #[.pointer (some ⟨g, 0, none⟩), .pointer (some ⟨g + 1, 0, none⟩)] r c (fun i k => (jD (l.getD (i * c + k) 0) q).1) (fun i k => (jD (l.getD (i * c + k) 0) q).2) := by
 intro i k w' hi hk hb
 have R1 := Lib.hid (R.below hb R.lt)
 have R2 := Lib.hid (R'.below hb R'.lt)
 have hle : r * c ≤ 8 * 8 := Nat.mul_le_mul hr hc
 have hlt : i * c + k < r * c := jQ hi hk
 have H1 := Lib.hid (fun w' h => lu r c A cp l i k w' h (by rw [hl]; exact hlt) (by rw [hl]; omega))
 have A1 := Lib.hid (hA.below hb)
 obtain ⟨x, hx⟩ : ∃ x, l.getD (i * c + k) 0 = x := ⟨_, rfl⟩
 rw [hx] at H1
 show Calls Tryz.prog 209 #[I i, I k, .pointer (some ⟨g, 0, none⟩), .pointer (some ⟨g + 1, 0, none⟩)] w' fun e w'' => e = .returned (.tuple #[I (jD (l.getD (i * c + k) 0) q).1, .bool (jD (l.getD (i * c + k) 0) q).2]) ∧ Below w'.heap.size w' w''
 rw [hx]
 have H3 := Lib.hid (fun w => jv x q w)
 obtain ⟨z, hz⟩ : ∃ z, jD x q = z := ⟨_, rfl⟩
 rw [hz] at H3 ⊢
 obtain ⟨z1, z2⟩ := z
 clear hb R R' hA hr hc hle hl hx hz hlt
 have K : Hid (∀ w2, Below w'.heap.size w' w2 → (∀ o, w2.cell? ⟨g, o, none⟩ = #[I r, I c, (.slice A l.length cp)][o]?) ∧ (∀ o, w2.cell? ⟨g + 1, o, none⟩ = #[I q][o]?)) := Lib.hid (fun w2 hb => ⟨(R1.out.below hb R1.out.lt).cell, (R2.out.below hb R2.out.lt).cell⟩)
 have B0 := Lib.hid (Below.refl w'.heap.size w')
 have B1 := Lib.hid B0.out.drew
 have x2 := R1.out.cell
 have x3 := R2.out.cell
 clear R1 R2
 go_enter Tryz.func209, Tryz.ntmps209
 go_wp2_with fail
 go_region_held3 (fun w2 => (∀ o, w2.cell? ⟨g, o, none⟩ = #[I r, I c, (.slice A l.length cp)][o]?) ∧ (∀ o, w2.cell? ⟨g + 1, o, none⟩ = #[I q][o]?))
  (first | with_reducible exact K.out _ B3.out | with_reducible exact K.out _ B2.out | with_reducible exact K.out _ B1.out | with_reducible exact K.out _ B0.out)
  (first
    | (go_at_call 92
       refine (H3.out _).mono ?_
       rintro e w4 ⟨rfl, hb⟩
       have B3 := Lib.hid (B2.out.trans (hb.mono B2.out.size))
       clear hb)
    | (go_at_call 134
       refine (H1.out _ (A1.out.below B1.out)).mono ?_
       rintro e w2 ⟨rfl, hb⟩
       have B2 := Lib.hid (B1.out.trans (hb.mono B1.out.size))
       clear hb))
 all_goals
  go_wp2
  go_ret2
  exact ⟨rfl, B3.out⟩
theorem Oi (r c : Nat) (A : Option Addr) (cp : Nat) (l : List Int) (q : Int) (w : World) (hr : r ≤ 8) (hc : c ≤ 8) (hl : l.length = r * c) (hA : Rd w A l) (hcp : l.length ≤ cp) :
 Calls Tryz.prog 203 #[.agg #[I r, I c, (.slice A l.length cp)], I q] w fun e w' => ∃ v, e = .returned (.tuple #[.agg #[I r, I c, v], .bool (scaleB r c l q)]) ∧ Own w' w.heap.size v (kS r c l q) ∧ Below w.heap.size w w' := by
 have N : Hid (bD w [(29, #[I r, I c, (.slice A l.length cp)]), (22, #[I q]), (29, #[I 0, I 0, .slice none 0 0])] (((w.alloc (.cells #[I r, I c, (.slice A l.length cp)] 29)).alloc (.cells #[I q] 22)).alloc (.cells #[I 0, I 0, .slice none 0 0] 29))) := Lib.hid ((((bD.none w).push (by simp) _ _).push (by simp) _ _).push (by simp) _ _)
 have O1 := Lib.hid (fun w' h => pg r c A l cp w' h hcp)
 have HA := Lib.hid hA
 obtain ⟨L, hL⟩ : ∃ L, kS r c l q = L := ⟨_, rfl⟩
 obtain ⟨b, hb⟩ : ∃ b, scaleB r c l q = b := ⟨_, rfl⟩
 have HM := Lib.hid (fun w' (h : bD w [(29, #[I r, I c, (.slice A l.length cp)]), (22, #[I q]), (29, #[I 0, I 0, .slice none 0 0])] w') => ry 209 #[.pointer (some ⟨w.heap.size, 0, none⟩), .pointer (some ⟨w.heap.size + 1, 0, none⟩)] r c _ _ w' L b hL hb hr hc QS (Il r c A cp w.heap.size q l w' hr hc hl (hA.below h.be) h.r0 h.r1))
 rw [hL, hb]
 clear hr hc hl hA hcp hL hb
 have hmf := hmf
 go_enter Tryz.func203, Tryz.ntmps203
 go_wp2_with fail
 refine (O1.out _ (HA.out.below N.out.be)).mono ?_
 rintro e w4 ⟨rfl, hb⟩
 have N4 := Lib.hid (N.out.below hb)
 clear hb N
 go_wp2_with fail
 refine (HM.out _ N4.out).mono ?_
 rintro e w5 ⟨A2, c2, rfl, ho, hb⟩
 have O := Lib.hid ho
 have N5 := Lib.hid (N4.out.below hb)
 have L4 := N4.out.r2.lt
 clear ho hb
 have x3 := N5.out.r2.cell
 have g3 := N5.out.r2.free
 have t3 := N5.out.r2.lt
 go_wp2
 refine bodyPost_ret (L8 rfl rfl (N5.out.r2.dw _ _ _)) rfl ⟨_, rfl, ?_, Below.dw N5.out.be (by omega) _ _ _⟩
 exact (O.out.dw (by omega) _ _ _).lower (by omega)
def Hr (c1 c2 : Nat) (l m : List Int) (i k : Nat) : Nat → Int × Bool
 | 0 => (0, false)
 | j + 1 =>
   let p := jD (l.getD (i * c1 + j) 0) (m.getD (j * c2 + k) 0)
   let t := jg (Hr c1 c2 l m i k j).1 p.1
   (t.1, (Hr c1 c2 l m i k j).2 || p.2 || t.2)
def mulL (r c1 c2 : Nat) (l m : List Int) : List Int := upto c2 (fun i k => (Hr c1 c2 l m i k c1).1) r
def ru (r c1 c2 : Nat) (l m : List Int) : Bool := uG c2 (fun i k => (Hr c1 c2 l m i k c1).2) r
theorem ND (r c1 c2 : Nat) (A A' : Option Addr) (cp cp' g : Nat) (l m : List Int) (w : World) (hr : r ≤ 8) (hc1 : c1 ≤ 8) (hc2 : c2 ≤ 8) (hl : l.length = r * c1) (hm : m.length = c1 * c2) (hA : Rd w A l) (hA' : Rd w A' m)
 (R : Row w g 29 #[I r, I c1, (.slice A l.length cp)]) (R' : Row w (g + 1) 29 #[I c1, I c2, (.slice A' m.length cp')]) :
 xZ w 186 #[.pointer (some ⟨g, 0, none⟩), .pointer (some ⟨g + 1, 0, none⟩)] r c2 (fun i k => (Hr c1 c2 l m i k c1).1) (fun i k => (Hr c1 c2 l m i k c1).2) := by
 intro i k w' hi hk hb
 have R1 := Lib.hid (R.below hb R.lt)
 have R2 := Lib.hid (R'.below hb R'.lt)
 have hle : r * c1 ≤ 8 * 8 := Nat.mul_le_mul hr hc1
 have hle2 : c1 * c2 ≤ 8 * 8 := Nat.mul_le_mul hc1 hc2
 have H1 := Lib.hid (fun w' j h (hj : j < c1) => lu r c1 A cp l i j w' h (by rw [hl]; exact jQ hi hj) (by rw [hl]; omega))
 have H2 := Lib.hid (fun w' j h (hj : j < c1) => lu c1 c2 A' cp' m j k w' h (by rw [hm]; exact jQ hj hk) (by rw [hm]; omega))
 have A1 := Lib.hid (hA.below hb)
 have A2 := Lib.hid (hA'.below hb)
 have HC := Lib.hid hc1
 show Calls Tryz.prog 186 #[I i, I k, .pointer (some ⟨g, 0, none⟩), .pointer (some ⟨g + 1, 0, none⟩)] w' fun e w'' => e = .returned (.tuple #[I (Hr c1 c2 l m i k c1).1, .bool (Hr c1 c2 l m i k c1).2]) ∧ Below w'.heap.size w' w''
 obtain ⟨f, hf⟩ : ∃ f, Hr c1 c2 l m i k = f := ⟨_, rfl⟩
 have hs : ∀ j, f (j + 1) = ((jg (f j).1 (jD (l.getD (i * c1 + j) 0) (m.getD (j * c2 + k) 0)).1).1, (f j).2 || (jD (l.getD (i * c1 + j) 0) (m.getD (j * c2 + k) 0)).2 || (jg (f j).1 (jD (l.getD (i * c1 + j) 0) (m.getD (j * c2 + k) 0)).1).2) := fun j => by subst hf; rfl
 have h0 : f 0 = (0, false) := by subst hf; rfl
 rw [hf]
 have HF := Lib.hid hs
 have H0 := Lib.hid h0
 clear hb R R' hA hA' hr hc1 hc2 hle hle2 hl hm hf hs h0
 have K : Hid (∀ w2, Below w'.heap.size w' w2 → (∀ o, w2.cell? ⟨g, o, none⟩ = #[I r, I c1, (.slice A l.length cp)][o]?) ∧ (∀ o, w2.cell? ⟨g + 1, o, none⟩ = #[I c1, I c2, (.slice A' m.length cp')][o]?)) := Lib.hid (fun w2 hb => ⟨(R1.out.below hb R1.out.lt).cell, (R2.out.below hb R2.out.lt).cell⟩)
 have B0 := Lib.hid (Below.refl w'.heap.size w')
 have x2 := R1.out.cell
 have x3 := R2.out.cell
 clear R1 R2
 go_enter Tryz.func186, Tryz.ntmps186
 go_wp2_with fail
 go_loopw [8, 9, 17] (fun su od jj wr => ∃ (j : Nat) (sv : Int) (ov : Bool), j ≤ c1 ∧ jj = .int .i64 j ∧ su = .int .i64 sv ∧ od = .bool ov ∧ Hid (f j = (sv, ov)) ∧ Hid (Below w'.heap.size w' wr)) (fun _ _ jj _ => c1 - (intOf jj).toNat)
 case atStart => exact ⟨0, 0, false, by omega, rfl, rfl, rfl, Lib.hid H0.out, B0⟩
 case round =>
  clear B0
  obtain ⟨j, sv, ov, hj, rfl, rfl, rfl, F, B0⟩ := hrel
  clear x2 x3
  have x2 := (K.out _ B0.out).1
  have x3 := (K.out _ B0.out).2
  by_cases hjc : j = c1
  · subst hjc
    go_wp2
    go_ret2
    exact ⟨by rw [F.out]; rfl, B0.out⟩
  have hlt : (j : Int) < c1 := by omega
  have HJ := Lib.hid (show j < c1 by omega)
  have STEP : Hid (j + 1 ≤ c1 ∧ c1 - (j + 1) < c1 - j) := Lib.hid (by omega)
  have hw64 : IntKind.i64.wrap ((j : Int) + 1) = (j : Int) + 1 := by have := HC.out; simp [IntKind.wrap, IntKind.bits, IntKind.signed]; omega
  obtain ⟨x, hx⟩ : ∃ x, l.getD (i * c1 + j) 0 = x := ⟨_, rfl⟩
  obtain ⟨y, hy⟩ : ∃ y, m.getD (j * c2 + k) 0 = y := ⟨_, rfl⟩
  obtain ⟨p, hp⟩ : ∃ p, jD x y = p := ⟨_, rfl⟩
  obtain ⟨p1, p2⟩ := p
  obtain ⟨t, ht⟩ : ∃ t, jg sv p1 = t := ⟨_, rfl⟩
  obtain ⟨t1, t2⟩ := t
  have F2 : Hid (f (j + 1) = (t1, ov || p2 || t2)) := Lib.hid (by rw [HF.out, F.out, hx, hy, hp]; dsimp only; rw [ht])
  have G1 := Lib.hid (fun w' h => H1.out w' j h HJ.out)
  have G2 := Lib.hid (fun w' h => H2.out w' j h HJ.out)
  have G3 := Lib.hid (fun w => jv x y w)
  have G4 := Lib.hid (fun w => vT sv p1 w)
  rw [hx] at G1
  rw [hy] at G2
  rw [hp] at G3
  rw [ht] at G4
  dsimp only at G3 G4
  clear hx hy hp ht hj hjc
  have B1 := Lib.hid B0.out.drew
  go_wp2_with fail
  go_region_held3 (fun w2 => (∀ o, w2.cell? ⟨g, o, none⟩ = #[I r, I c1, (.slice A l.length cp)][o]?) ∧ (∀ o, w2.cell? ⟨g + 1, o, none⟩ = #[I c1, I c2, (.slice A' m.length cp')][o]?))
   (first | with_reducible exact K.out _ B4.out | with_reducible exact K.out _ B3.out | with_reducible exact K.out _ B2.out | with_reducible exact K.out _ B1.out | with_reducible exact K.out _ B0.out)
   (first
     | (go_at_call 92
        refine (G3.out _).mono ?_
        rintro e w4 ⟨rfl, hb⟩
        have B4 := Lib.hid (B3.out.trans (hb.mono B3.out.size))
        clear hb)
     | (go_at_call 134
        refine (G2.out _ (A2.out.below B2.out)).mono ?_
        rintro e w3 ⟨rfl, hb⟩
        have B3 := Lib.hid (B2.out.trans (hb.mono B2.out.size))
        clear hb)
     | (go_at_call 134
        refine (G1.out _ (A1.out.below B1.out)).mono ?_
        rintro e w2 ⟨rfl, hb⟩
        have B2 := Lib.hid (B1.out.trans (hb.mono B1.out.size))
        clear hb))
  go_wp2_with fail
  refine (G4.out _).mono ?_
  rintro e w5 ⟨rfl, hb⟩
  have B5 := Lib.hid (B4.out.trans (hb.mono B4.out.size))
  clear hb
  cases ov
  · cases p2
    all_goals
     go_wp2
     go_roundw
     case rel => exact ⟨j + 1, t1, _, STEP.out.1, by go_num, rfl, rfl, by simpa using F2, B5⟩
     case measure =>
      have h := STEP.out.2
      show c1 - ((j : Int) + 1).toNat < c1 - ((j : Int)).toNat
      rw [show ((j : Int) + 1).toNat = j + 1 by omega, show ((j : Int)).toNat = j by omega]
      exact h
  · go_wp2
    go_roundw
    case rel => exact ⟨j + 1, t1, _, STEP.out.1, by go_num, rfl, rfl, by simpa using F2, B5⟩
    case measure =>
     have h := STEP.out.2
     show c1 - ((j : Int) + 1).toNat < c1 - ((j : Int)).toNat
     rw [show ((j : Int) + 1).toNat = j + 1 by omega, show ((j : Int)).toNat = j by omega]
     exact h
theorem xH (r c1 c2 : Nat) (A A' : Option Addr) (cp cp' : Nat) (l m : List Int) (w : World) (hr : r ≤ 8) (hc1 : c1 ≤ 8) (hc2 : c2 ≤ 8) (hl : l.length = r * c1) (hm : m.length = c1 * c2) (hA : Rd w A l) (hA' : Rd w A' m) :
 Calls Tryz.prog 152 #[.agg #[I r, I c1, (.slice A l.length cp)], .agg #[I c1, I c2, (.slice A' m.length cp')]] w fun e w' => ∃ v, e = .returned (.tuple #[.agg #[I r, I c2, v], .bool (ru r c1 c2 l m), I 0]) ∧ Own w' w.heap.size v (mulL r c1 c2 l m) ∧ Below w.heap.size w w' := by
 have N : Hid (bD w [(29, #[I r, I c1, (.slice A l.length cp)]), (29, #[I c1, I c2, (.slice A' m.length cp')]), (29, #[I 0, I 0, .slice none 0 0])] (((w.alloc (.cells #[I r, I c1, (.slice A l.length cp)] 29)).alloc (.cells #[I c1, I c2, (.slice A' m.length cp')] 29)).alloc (.cells #[I 0, I 0, .slice none 0 0] 29))) := Lib.hid ((((bD.none w).push (by simp) _ _).push (by simp) _ _).push (by simp) _ _)
 obtain ⟨L, hL⟩ : ∃ L, mulL r c1 c2 l m = L := ⟨_, rfl⟩
 obtain ⟨b, hb⟩ : ∃ b, ru r c1 c2 l m = b := ⟨_, rfl⟩
 have HM := Lib.hid (ry 186 #[.pointer (some ⟨w.heap.size, 0, none⟩), .pointer (some ⟨w.heap.size + 1, 0, none⟩)] r c2 _ _ _ L b hL hb hr hc2 QT (ND r c1 c2 A A' cp cp' w.heap.size l m _ hr hc1 hc2 hl hm (hA.below N.out.be) (hA'.below N.out.be) N.out.r0 N.out.r1))
 rw [hL, hb]
 clear hr hc1 hc2 hl hm hA hA' hL hb
 have hmf := hmf
 have e1 : ((c1 : Int) != (c1 : Int)) = false := by simp
 go_enter Tryz.func152, Tryz.ntmps152
 go_wp2_with fail
 refine HM.out.mono ?_
 rintro e w5 ⟨A2, c3, rfl, ho, hb⟩
 have O := Lib.hid ho
 have N5 := Lib.hid (N.out.below hb)
 clear ho hb N HM
 have x3 := N5.out.r2.cell
 have g3 := N5.out.r2.free
 have t3 := N5.out.r2.lt
 go_wp2
 refine bodyPost_ret (sW rfl rfl ((N5.out.r2.dw _ _ _).alloc _)) rfl ⟨_, rfl, ?_, (Below.dw N5.out.be (by omega) _ _ _).alloc (by have := N5.out.be.size; simp; omega) _⟩
 exact ((O.out.dw (by simp) _ _ _).alloc _).lower (by simp; omega)
theorem IG (r c1 r2 c2 : Int) (A A' : Option Addr) (cp cp' : Nat) (l m : List Int) (w : World) (hne : c1 ≠ r2) :
 Calls Tryz.prog 152 #[.agg #[I r, I c1, (.slice A l.length cp)], .agg #[I r2, I c2, (.slice A' m.length cp')]] w fun e w' => e = .returned (.tuple #[.agg #[I 0, I 0, .slice none 0 0], .bool false, I 9]) ∧ Below w.heap.size w w' := by
 have N : Hid (bD w [(29, #[I r, I c1, (.slice A l.length cp)]), (29, #[I r2, I c2, (.slice A' m.length cp')]), (29, #[I 0, I 0, .slice none 0 0])] (((w.alloc (.cells #[I r, I c1, (.slice A l.length cp)] 29)).alloc (.cells #[I r2, I c2, (.slice A' m.length cp')] 29)).alloc (.cells #[I 0, I 0, .slice none 0 0] 29))) := Lib.hid ((((bD.none w).push (by simp) _ _).push (by simp) _ _).push (by simp) _ _)
 have e1 : (c1 != r2) = true := by simpa using hne
 clear hne
 have x3 := N.out.r2.cell
 have g3 := N.out.r2.free
 go_enter Tryz.func152, Tryz.ntmps152
 go_wp2
 exact bodyPost_ret (sW rfl rfl N.out.r2) rfl ⟨rfl, N.out.be⟩
end Go.Proofs.YtcfobekkchhbbaaGreat.KK

namespace Go.Proofs.YtcfobekkchhbbaaGreat.KK
open Go.RowKit Go.Proofs.af.aQ Go.Proofs.af.a_ Go.Proofs.af.bg
set_option linter.unusedVariables false
set_option linter.unusedSimpArgs false
def lJ (q : Int) : Bool := decide (q < -70368744177664) || decide (q > 70368744177663)
theorem Kr (q : Int) (w : World) : Calls Tryz.prog 130 #[I q] w fun e w' => e = .returned (.bool (lJ q)) ∧ Below w.heap.size w w' := by
 by_cases h : q < -70368744177664
 · have h0 : decide (q < -70368744177664) = true := decide_eq_true h
   clear h
   go_enter Tryz.func130, Tryz.ntmps130
   go_wp2
   go_ret
   exact ⟨by simp [lJ, h0], Below.refl _ _⟩
 · have h0 : decide (q < -70368744177664) = false := decide_eq_false h
   clear h
   go_enter Tryz.func130, Tryz.ntmps130
   go_wp2
   go_ret
   exact ⟨by simp [lJ, h0], Below.refl _ _⟩
theorem take_any {l : List Int} {j : Nat} {x : Int} (h : l[j]? = some x) (ha : (l.take j).any lJ = false) (hx : lJ x = false) : (l.take (j + 1)).any lJ = false := by
 rw [List.take_add_one, h, List.any_append, ha]
 simp [hx]
theorem XD {l : List Int} {j : Nat} {x : Int} (h : l[j]? = some x) (hx : lJ x = true) : l.any lJ = true :=
 List.any_eq_true.2 ⟨x, List.mem_of_getElem? h, hx⟩
theorem IL (A : Option Addr) (c : Nat) (l : List Int) (w : World) (hw : Rd w A l) (hlen : l.length ≤ 1000000) :
 Calls Tryz.prog 78 #[.slice A l.length c, .func (.func 130) #[] #[]] w fun e w' => ∃ x, e = .returned (I x) ∧ decide (x ≥ 0) = l.any lJ ∧ Below w.heap.size w w' := by
 have HW := Lib.hid hw
 have HL := Lib.hid hlen
 clear hw hlen
 go_enter Tryz.func78, Tryz.ntmps78
 go_wp2_with fail
 go_loopw [8] (fun i wr => ∃ k : Nat, k ≤ l.length ∧ i = .int .i64 k ∧ Hid ((l.take k).any lJ = false) ∧ Hid (Below w.heap.size w wr)) (fun i _ => l.length - (intOf i).toNat)
 case atStart => exact ⟨0, by omega, rfl, Lib.hid (by simp), Lib.hid (Below.refl _ _)⟩
 case round =>
  obtain ⟨k, hk, rfl, F, HB⟩ := hrel
  by_cases hkl : k = l.length
  · subst hkl
    go_wp2
    go_ret
    exact ⟨_, rfl, by have := F.out; rw [List.take_length] at this; rw [this]; rfl, HB.out⟩
  have hlt : (k : Int) < l.length := by omega
  have hk0 : (0 : Int) ≤ k := by omega
  have STEP : Hid (k + 1 ≤ l.length ∧ l.length - (k + 1) < l.length - k) := Lib.hid (by omega)
  have hw64 : IntKind.i64.wrap ((k : Int) + 1) = (k : Int) + 1 := by have := HL.out; simp [IntKind.wrap, IntKind.bits, IntKind.signed]; omega
  obtain ⟨b, off, rfl, hb, hc⟩ := (HW.out.below HB.out).cells (by omega)
  obtain ⟨x, hx⟩ : ∃ x, l[k]? = some x := ⟨l[k]'(by omega), List.getElem?_eq_getElem (by omega)⟩
  have c0 := hc k x hx
  have HX := Lib.hid hx
  clear hc hx hk hkl
  go_wp2_with fail
  refine (Kr x _).mono ?_
  rintro e w2 ⟨rfl, hb2⟩
  have HB2 := Lib.hid (HB.out.trans (hb2.mono HB.out.size))
  clear hb2
  cases hq : lJ x
  · have HQ := Lib.hid hq
    clear hq
    go_wp2
    go_roundw
    case rel => exact ⟨k + 1, STEP.out.1, by go_num, Lib.hid (take_any HX.out F.out HQ.out), HB2⟩
    case measure =>
     have h := STEP.out.2
     show l.length - ((k : Int) + 1).toNat < l.length - ((k : Int)).toNat
     rw [show ((k : Int) + 1).toNat = k + 1 by omega, show ((k : Int)).toNat = k by omega]
     exact h
  · have HQ := Lib.hid hq
    clear hq
    go_wp2
    go_ret
    exact ⟨_, rfl, by rw [XD HX.out HQ.out]; simp, HB2.out⟩
theorem Cj (A : Option Addr) (c : Nat) (l : List Int) (w : World) (hw : Rd w A l) (hlen : l.length ≤ 1000000) :
 Calls Tryz.prog 36 #[.slice A l.length c, .func (.func 130) #[] #[]] w fun e w' => e = .returned (.bool (l.any lJ)) ∧ Below w.heap.size w w' := by
 have H := Lib.hid (IL A c l w hw hlen)
 clear hw hlen
 go_enter Tryz.func36, Tryz.ntmps36
 go_wp2_with fail
 refine H.out.mono ?_
 rintro e w2 ⟨x, rfl, hx, hb⟩
 have HB := Lib.hid hb
 have HX := Lib.hid hx
 clear hb hx
 go_wp2
 go_ret
 exact ⟨by rw [← HX.out]; rfl, HB.out⟩
def iy (r c : Int) (l : List Int) : Bool := decide (r ≥ 1) && decide (r ≤ 8) && decide (c ≥ 1) && decide (c ≤ 8) && ((l.length : Int) == wrap64 (r * c)) && !l.any lJ
theorem jG (r c : Int) (A : Option Addr) (cp : Nat) (l : List Int) (w : World) (hw : Rd w A l) :
 Calls Tryz.prog 80 #[.agg #[I r, I c, (.slice A l.length cp)]] w fun e w' => e = .returned (.bool (iy r c l)) ∧ Below w.heap.size w w' := by
 have N : Hid (bD w [(29, #[I r, I c, (.slice A l.length cp)])] (w.alloc (.cells #[I r, I c, (.slice A l.length cp)] 29))) := Lib.hid ((bD.none w).push (by simp) _ _)
 have HW := Lib.hid hw
 clear hw
 cases h0 : decide (r ≥ 1)
 · go_enter Tryz.func80, Tryz.ntmps80
   go_wp2
   go_ret
   exact ⟨by simp [iy, *], N.out.be⟩
 cases h1 : decide (r ≤ 8)
 · go_enter Tryz.func80, Tryz.ntmps80
   go_wp2
   go_ret
   exact ⟨by simp [iy, *], N.out.be⟩
 cases h2 : decide (c ≥ 1)
 · go_enter Tryz.func80, Tryz.ntmps80
   go_wp2
   go_ret
   exact ⟨by simp [iy, *], N.out.be⟩
 cases h3 : decide (c ≤ 8)
 · go_enter Tryz.func80, Tryz.ntmps80
   go_wp2
   go_ret
   exact ⟨by simp [iy, *], N.out.be⟩
 cases h4 : ((l.length : Int) == wrap64 (r * c))
 · go_enter Tryz.func80, Tryz.ntmps80
   go_wp2
   go_ret
   exact ⟨by simp [iy, *], N.out.be⟩
 have hlen : l.length ≤ 1000000 := by
  have a0 := of_decide_eq_true h0
  have a1 := of_decide_eq_true h1
  have a2 := of_decide_eq_true h2
  have a3 := of_decide_eq_true h3
  have a4 : (l.length : Int) = wrap64 (r * c) := by simpa using h4
  have b0 : 0 ≤ r * c := Int.mul_nonneg (by omega) (by omega)
  have b1 : r * c ≤ 8 * c := Int.mul_le_mul_of_nonneg_right (by omega) (by omega)
  unfold wrap64 at a4
  omega
 have H := Lib.hid (Cj A cp l _ (HW.out.below N.out.be) hlen)
 obtain ⟨b, hb⟩ : ∃ b, l.any lJ = b := ⟨_, rfl⟩
 have HB := Lib.hid hb
 rw [hb] at H
 clear hb hlen
 go_enter Tryz.func80, Tryz.ntmps80
 go_wp2_with fail
 refine H.out.mono ?_
 rintro e w2 ⟨rfl, hb⟩
 have N2 := Lib.hid (N.out.below hb)
 clear hb
 go_wp2
 go_ret
 exact ⟨by simp [iy, HB.out, *], N2.out.be⟩
theorem Rd.flat {w : World} {ad : Addr} {l : List Int} (h : Rd w (some ad) l) : ∀ j u, (l.map I)[j]? = some u → w.cell? (ad.add j) = some u := by
 intro j u hj
 rw [List.getElem?_map] at hj
 cases hx : l[j]? with
 | none => rw [hx] at hj; cases hj
 | some x =>
   rw [hx] at hj
   injection hj with hj
   subst hj
   have hl : j < l.length := by
    rcases Nat.lt_or_ge j l.length with h | h
    · exact h
    · rw [List.getElem?_eq_none h] at hx; cases hx
   obtain ⟨b, off, e, _, hc⟩ := h.cells (by omega)
   injection e with e
   subst e
   have := hc j x hx
   unfold Addr.add
   by_cases h0 : j = 0
   · subst h0; simpa using this
   · rw [if_neg h0]; exact this
theorem Jj (A : Option Addr) (c : Nat) (l : List Int) (w : World) (hw : Rd w A l) (hlen : l.length ≤ 1000000) (hA : A = none → l.length = 0 ∧ c = 0) :
 Calls Tryz.prog 75 #[.slice A l.length c] w fun e w' => ∃ v, e = .returned v ∧ Own w' w.heap.size v l ∧ Below w.heap.size w w' := by
 cases A with
 | none =>
   obtain ⟨hl, rfl⟩ := hA rfl
   obtain rfl := List.eq_nil_of_length_eq_zero hl
   have he : ∀ w : World, (binOp .eql 27 (.slice none 0 0) (.slice none 0 0)).run Tryz.prog w = .ok (.bool true) w := fun _ => rfl
   go_enter Tryz.func75, Tryz.ntmps75
   go_wp2
   go_ret
   exact ⟨_, rfl, Own.nil _ _, Below.refl _ _⟩
 | some ad =>
   have HW := Lib.hid hw
   have HL := Lib.hid hlen
   clear hw hlen hA
   go_enter Tryz.func75, Tryz.ntmps75
   have he : ∀ w : World, (binOp .eql 27 (.slice (some ad) l.length c) (.slice none 0 0)).run Tryz.prog w = .ok (.bool false) w := fun _ => rfl
   obtain ⟨i0, hi0, hz0, hz1, hz2⟩ := info_parts JS
   go_wp2_with (at_builtin
                refine wpList_append_own_at _ rfl (.tmp 5) (.tmp 6) _ rfl w.heap.size 22 i0 _ 1 8 Tryz.underlying27 hi0 hz0 hz1 hz2 rfl (by omega) (.slice (some ⟨w.heap.size, 0, none⟩) 0 0) 0 [] rfl ?own ad l.length c (l.map I) rfl (by simp) ?news ?one ?h63 ?hby ?base ?_
                case own => exact ⟨rfl, .inr ⟨_, 0, #[], rfl, Nat.le_refl _, heap_alloc_new w _, Nat.le_refl _, by simp [maxLen], rfl, rfl⟩⟩
                case news => exact (HW.out.below ((Below.refl _ _).alloc (Nat.le_refl _) _)).flat
                case one => (intro u hu; simp at hu; obtain ⟨q, _, rfl⟩ := hu; rfl)
                case h63 => (have := HL.out; simp only [maxLen]; omega)
                case hby => (have := HL.out; omega)
                case base => simp
                intro v' w' hown hgrow hnil hat)
   go_ret
   exact ⟨v', rfl, Own.tH (by simpa using hown), ((Below.refl _ _).alloc (Nat.le_refl _) _).grown hgrow (by simp) (by intro k hk; simp [Value.ownBlock] at hk; omega)⟩
def gB (l : List Int) : List Int := upto l.length (fun i k => if i = k then l.getD i 0 else 0) l.length
theorem QV : Enters 129 := enters Tryz.func129 rfl rfl
theorem JO (A : Option Addr) (cp g : Nat) (l : List Int) (w : World) (hl : l.length ≤ 8) (hA : Rd w A l) (R : Row w g 27 #[(.slice A l.length cp)]) :
 xZ w 129 #[.pointer (some ⟨g, 0, none⟩)] l.length l.length (fun i k => if i = k then l.getD i 0 else 0) (fun _ _ => false) := by
 intro i k w' hi hk hb
 have R' := R.below hb R.lt
 have x := R'.cell
 show Calls Tryz.prog 129 #[I i, I k, .pointer (some ⟨g, 0, none⟩)] w' fun e w'' => e = .returned (.tuple #[I (if i = k then l.getD i 0 else 0), .bool false]) ∧ Below w'.heap.size w' w''
 by_cases h : i = k
 · subst h
   rw [if_pos rfl]
   obtain ⟨b, off, rfl, _, hc⟩ := (hA.below hb).cells (by omega)
   have c0 := hc i _ (gX hi)
   obtain ⟨y, hy⟩ : ∃ y, l.getD i 0 = y := ⟨_, rfl⟩
   rw [hy] at c0 ⊢
   have e0 : ((i : Int) == (i : Int)) = true := by simp
   have i0 : (0 : Int) ≤ i := by omega
   have i1 : (i : Int) < l.length := by omega
   clear hb hc hy hA hi hk hl R R'
   go_enter Tryz.func129, Tryz.ntmps129
   go_wp2
   go_ret2
   exact ⟨rfl, Below.refl _ _⟩
 · rw [if_neg h]
   have e0 : ((i : Int) == (k : Int)) = false := by simp; omega
   clear hb hA hi hk hl R R' h
   go_enter Tryz.func129, Tryz.ntmps129
   go_wp2
   go_ret2
   exact ⟨rfl, Below.refl _ _⟩
theorem NV (l : List Int) (h1 : 1 ≤ l.length) (h8 : l.length ≤ 8) : iy 1 l.length l = !l.any lJ := by
 have e : wrap64 (1 * (l.length : Int)) = l.length := by unfold wrap64; omega
 have e1 : decide ((l.length : Int) ≥ 1) = true := decide_eq_true (by omega)
 have e2 : decide ((l.length : Int) ≤ 8) = true := decide_eq_true (by omega)
 simp only [iy, e, e1, e2]
 simp
theorem yL (A : Option Addr) (cp : Nat) (l : List Int) (w : World) (hA : Rd w A l) (h1 : 1 ≤ l.length) (h8 : l.length ≤ 8) (ha : l.any lJ = false) :
 Calls Tryz.prog 74 #[(.slice A l.length cp)] w fun e w' => ∃ v, e = .returned (.tuple #[.agg #[I l.length, I l.length, v], I 0]) ∧ Own w' w.heap.size v (gB l) ∧ Below w.heap.size w w' := by
 have N : Hid (bD w [(27, #[(.slice A l.length cp)]), (29, #[I 0, I 0, .slice none 0 0])] ((w.alloc (.cells #[(.slice A l.length cp)] 27)).alloc (.cells #[I 0, I 0, .slice none 0 0] 29))) := Lib.hid (((bD.none w).push (by simp) _ _).push (by simp) _ _)
 have e1 : decide ((l.length : Int) < 1) = false := decide_eq_false (by omega)
 have e2 : decide ((l.length : Int) > 8) = false := decide_eq_false (by omega)
 have H := Lib.hid (jG 1 l.length A cp l _ (hA.below N.out.be))
 rw [NV l (by omega) (by omega), ha] at H
 obtain ⟨L, hL⟩ : ∃ L, gB l = L := ⟨_, rfl⟩
 have HM := Lib.hid (fun w' (h : bD w [(27, #[(.slice A l.length cp)]), (29, #[I 0, I 0, .slice none 0 0])] w') => ry 129 #[.pointer (some ⟨w.heap.size, 0, none⟩)] l.length l.length _ _ w' L false hL (zF _ _) h8 h8 QV (JO A cp w.heap.size l w' h8 (hA.below h.be) h.r0))
 rw [hL]
 clear h1 h8 ha hA hL
 have hmf := hmf
 go_enter Tryz.func74, Tryz.ntmps74
 go_wp2_with fail
 refine H.out.mono ?_
 rintro e w2 ⟨rfl, hb⟩
 have N2 := Lib.hid (N.out.below hb)
 clear hb
 go_wp2_with fail
 refine (HM.out _ N2.out).mono ?_
 rintro e w5 ⟨A2, c2, rfl, ho, hb⟩
 have O := Lib.hid ho
 have N5 := Lib.hid (N2.out.below hb)
 have L4 := N2.out.r1.lt
 clear ho hb
 have x1 := N5.out.r1.cell
 have g1 := N5.out.r1.free
 have t1 := N5.out.r1.lt
 go_wp2
 refine bodyPost_ret (L8 rfl rfl ((N5.out.r1.dw _ _ _).alloc _)) rfl ⟨_, rfl, ?_, (Below.dw N5.out.be (by omega) _ _ _).alloc (by have := N5.out.be.size; simp; omega) _⟩
 exact ((O.out.dw (by omega) _ _ _).alloc _).lower (by omega)
end Go.Proofs.YtcfobekkchhbbaaGreat.KK

namespace Go.Proofs.YtcfobekkchhbbaaGreat.KK
open Go.RowKit Go.Proofs.af.aQ Go.Proofs.af.a_ Go.Proofs.af.bg
set_option linter.unusedVariables false
set_option linter.unusedSimpArgs false
theorem oV (r c : Nat) (l : List Int) : (xq r c l).length = c * r := upto_length
def Ec (n : Nat) (l : List Int) : List Int := jB mW n n l (xq n n l)
theorem OJ (n : Nat) (A : Option Addr) (cp : Nat) (l : List Int) (w : World) (hn : n ≤ 8) (hl : l.length = n * n) (hA : Rd w A l) (hcp : l.length ≤ cp) :
 Calls Tryz.prog 188 #[.agg #[I n, I n, .slice A l.length cp]] w fun e w' => ∃ v, e = .returned (.tuple #[.agg #[I n, I n, v], .bool (jS mW n n l (xq n n l)), I 0]) ∧ Own w' w.heap.size v (Ec n l) ∧ Below w.heap.size w w' := by
 have N : Hid (bD w [(29, #[I n, I n, .slice A l.length cp]), (29, #[I 0, I 0, .slice none 0 0])] ((w.alloc (.cells #[I n, I n, .slice A l.length cp] 29)).alloc (.cells #[I 0, I 0, .slice none 0 0] 29))) := Lib.hid (((bD.none w).push (by simp) _ _).push (by simp) _ _)
 have HA := Lib.hid hA
 have HT := Lib.hid (fun w' h => lQ n n A cp l w' hn hn hl h)
 have HE := Lib.hid (fun A' cp' w' h h' hc => OO n n A A' cp cp' l (xq n n l) w' hn hn hl (oV n n l) h h' hcp hc)
 obtain ⟨T, hT⟩ : ∃ T, xq n n l = T := ⟨_, rfl⟩
 rw [hT] at HT HE
 unfold Ec
 rw [hT]
 obtain ⟨L, hL⟩ : ∃ L, jB mW n n l T = L := ⟨_, rfl⟩
 obtain ⟨b, hb⟩ : ∃ b, jS mW n n l T = b := ⟨_, rfl⟩
 rw [hL, hb] at HE
 rw [hL, hb]
 have KK : Hid (∀ w', bD w [(29, #[I n, I n, .slice A l.length cp]), (29, #[I 0, I 0, .slice none 0 0])] w' → ∀ o, w'.cell? ⟨w.heap.size, o, none⟩ = #[I n, I n, .slice A l.length cp][o]?) := Lib.hid (fun w' h => h.r0.cell)
 clear hn hl hA hcp hT hL hb
 have y0 := N.out.r0.cell
 go_enter Tryz.func188, Tryz.ntmps188
 go_wp2_with fail
 go_region_held3 (fun w' => ∀ o, w'.cell? ⟨w.heap.size, o, none⟩ = #[I n, I n, .slice A l.length cp][o]?)
  (first | with_reducible exact KK.out _ N3.out | with_reducible exact KK.out _ N2.out | with_reducible exact KK.out _ N.out.drew | exact (Row.pW N3.out.r0 (C := w.heap.size + 1) (by simp)).cell)
  (first
    | (go_at_call 187
       refine (HE.out _ _ _ (HA.out.below N2.out.be) RT.out CT.out).mono ?_
       rintro e w3 ⟨A3, c3, rfl, ho, hb⟩
       have O := Lib.hid ho
       have N3 := Lib.hid (N2.out.below hb)
       have L3 := N2.out.r1.lt
       have x1 := N3.out.r1.cell
       have g1 := N3.out.r1.free
       clear hb ho)
    | (go_at_call 82
       refine (HT.out _ (HA.out.below N.out.drew.be)).mono ?_
       rintro e w2 ⟨v, rfl, ho, hb⟩
       obtain ⟨A2, c2, rfl, ht, rt⟩ := ho.reads
       have RT := Lib.hid rt
       have CT := Lib.hid ht
       have N2 := Lib.hid (N.out.drew.below hb)
       clear hb ho rt ht))
 all_goals
  go_wp2
  refine bodyPost_ret (sW rfl rfl (N3.out.r1.dw _ _ _)) rfl ⟨_, rfl, ?_, Below.dw N3.out.be (by omega) _ _ _⟩
  exact (O.out.dw (by omega) _ _ _).lower (by omega)
end Go.Proofs.YtcfobekkchhbbaaGreat.KK

namespace Go.Proofs.YtcfobekkchhbbaaGreat.KK
open Go.RowKit Go.Proofs.af.aQ Go.Proofs.af.a_ Go.Proofs.af.bg
set_option linter.unusedVariables false
set_option linter.unusedSimpArgs false
def qY : List Value → Nat → List Value → List Value
 | l, _, [] => l
 | l, o, v :: vs => qY (l.set o v) (o + 1) vs
theorem Row.setCells {B : Nat} {t : TypeId} : ∀ (vs : List Value) (o : Nat) (w : World) (arr : Array Value), Row w B t arr → ∃ Pg, Row (w.setCells B o vs) B t Pg ∧ Pg.toList = qY arr.toList o vs := by
 intro vs
 induction vs with
 | nil => intro o w arr h; exact ⟨arr, h, rfl⟩
 | cons v vs ih =>
   intro o w arr h
   obtain ⟨Pg, h1, h2⟩ := ih (o + 1) _ _ (h.set o v)
   refine ⟨Pg, h1, ?_⟩
   rw [h2]
   simp [qY]
theorem dA {B n : Nat} {w0 : World} : ∀ (vs : List Value) (o : Nat) (w : World), Below n w0 w → n ≤ B → Below n w0 (w.setCells B o vs) := by
 intro vs
 induction vs with
 | nil => intro o w h _; exact h
 | cons v vs ih => intro o w h hB; exact ih (o + 1) _ (h.setCell (p := ⟨B, o, none⟩) hB v) hB
theorem PZ (a b : Value) : ∀ (k j m : Nat), k ≤ m → qY (List.replicate j a ++ List.replicate m b) j (List.replicate k a) = List.replicate (j + k) a ++ List.replicate (m - k) b := by
 intro k
 induction k with
 | zero => intro j m _; simp [qY]
 | succ k ih =>
   intro j m h
   obtain ⟨m', rfl⟩ : ∃ m', m = m' + 1 := ⟨m - 1, by omega⟩
   show qY ((List.replicate j a ++ List.replicate (m' + 1) b).set j a) (j + 1) (List.replicate k a) = _
   have e : (List.replicate j a ++ List.replicate (m' + 1) b).set j a = List.replicate (j + 1) a ++ List.replicate m' b := by
    rw [List.set_append_right _ _ (by simp)]
    rw [List.length_replicate, Nat.sub_self, List.replicate_succ, List.set_cons_zero, show j + 1 = j + 1 from rfl, List.replicate_succ' (n := j), List.append_assoc]
    rfl
   rw [e, ih (j + 1) m' (by omega), show j + 1 + k = j + (k + 1) by omega, show m' - k = m' + 1 - (k + 1) by omega]
def Rep (w : World) (B n : Nat) (q : Int) (j : Nat) : Prop := ∃ arr, Row w B 22 arr ∧ arr.toList = List.replicate j (I q) ++ List.replicate (n - j) (I 0)
theorem Rep.cell {w : World} {B n : Nat} {q : Int} {j : Nat} (h : Rep w B n q j) {x : Nat} (hx : x < j) : w.cell? ⟨B, x, none⟩ = some (I q) := by
 obtain ⟨arr, hr, ha⟩ := h
 rw [hr.cell x, ← Array.getElem?_toList, ha, List.getElem?_append_left (by simpa using hx)]
 simp [hx]
theorem Rep.some {w : World} {B n : Nat} {q : Int} {j : Nat} (h : Rep w B n q j) {x : Nat} (hx : x < n) (hj : j ≤ n) : (w.cell? ⟨B, x, none⟩).isSome = true := by
 obtain ⟨arr, hr, ha⟩ := h
 have hs : arr.size = n := by rw [← Array.length_toList, ha]; simp; omega
 rw [hr.cell x, Array.getElem?_eq_getElem (by omega)]
 rfl
theorem Rep.free {w : World} {B n : Nat} {q : Int} {j : Nat} (h : Rep w B n q j) (x : Nat) : w.frozen? ⟨B, x, none⟩ = false := by
 obtain ⟨arr, hr, _⟩ := h
 exact hr.free x
theorem Rep.put {w : World} {B n : Nat} {q : Int} {j k : Nat} (h : Rep w B n q j) (hk : j + k ≤ n) : Rep (w.setCells B j (List.replicate k (I q))) B n q (j + k) := by
 obtain ⟨arr, hr, ha⟩ := h
 obtain ⟨Pg, h1, h2⟩ := hr.setCells (List.replicate k (I q)) j
 exact ⟨Pg, h1, by rw [h2, ha, PZ _ _ _ _ _ (by omega), show n - j - k = n - (j + k) by omega]⟩
theorem Rep.drew {w : World} {B n : Nat} {q : Int} {j : Nat} (h : Rep w B n q j) : Rep w.drew B n q j := h
theorem Rep.own {w : World} {B n base : Nat} {q : Int} (h : Rep w B n q n) (hb : base ≤ B) (hn : n ≤ 1000000) : Own w base (.slice (Option.some ⟨B, 0, none⟩) n n) (List.replicate n q) := by
 obtain ⟨arr, hr, ha⟩ := h
 have hs : arr.size = n := by rw [← Array.length_toList, ha]; simp
 have hl : (List.replicate n q).length = n := by simp
 refine Own.tH ⟨by rw [hl]; simp, .inr ⟨B, n, arr, by rw [hl], hb, hr, by rw [hl]; omega, by simp only [maxLen]; omega, by rw [hs]; omega, ?_⟩⟩
 rw [hl, Nat.mul_one, ha, Nat.sub_self]
 simp
theorem Ji (w : World) (ty : TypeId) (B j dLen dCap b sLen sCap k : Nat) (q : Int) (hk : k = Nat.min sLen dLen)
 (hsrc : ∀ x, x < k → w.cell? ⟨b, x, none⟩ = some (I q)) (hc : ∀ x, x < k → (w.cell? ⟨B, j + x, none⟩).isSome = true) (hf : ∀ x, w.frozen? ⟨B, x, none⟩ = false) :
 (Builtin.copy_ #[27, 27] ty #[.slice (some ⟨B, j, none⟩) dLen dCap, .slice (some ⟨b, 0, none⟩) sLen sCap]).run Tryz.prog w = .ok (I k) (w.setCells B j (List.replicate k (I q))) := by
 have h := run_copy_cells (P := Tryz.prog) w 27 27 ty 22 B j dLen dCap ⟨b, 0, none⟩ sLen sCap (List.replicate k (I q)) Tryz.underlying27 (by kernel_rfl) (by simpa using hk)
  (fun x v hx => by
    rw [List.getElem?_replicate] at hx
    split at hx
    · injection hx with hx
      subst hx
      have := hsrc x (by assumption)
      unfold Addr.add
      by_cases h0 : x = 0
      · subst h0; simpa using this
      · rw [if_neg h0]; simpa using this
    · cases hx)
  (fun x hx => hc x (by simpa using hx)) (fun x hx => hf _) (fun v hv => by rw [List.eq_of_mem_replicate hv]; rfl)
 simpa [goInt] using h
theorem NJ (w : World) {ops : Array Oper} {o : Oper} {a : Act} {K : Act → World → Prop} {Q : Exit → Act → World → Prop} {E : Prop} (hg : o.guard = none) (d s : Operand)
 (hop : o.op = .call { callee := .builtin .copy, args := #[d, s], argTypes := #[27, 27] })
 (B j dLen dCap b sLen sCap k : Nat) (q : Int) (hd : a.eval d = .slice (some ⟨B, j, none⟩) dLen dCap) (hs : a.eval s = .slice (some ⟨b, 0, none⟩) sLen sCap) (hk : k = Nat.min sLen dLen)
 (hsrc : ∀ x, x < k → w.cell? ⟨b, x, none⟩ = some (I q)) (hc : ∀ x, x < k → (w.cell? ⟨B, j + x, none⟩).isSome = true) (hf : ∀ x, w.frozen? ⟨B, x, none⟩ = false)
 (hK : K (a.put o.dst (I k)) (w.setCells B j (List.replicate k (I q)))) :
 if Region.wanted o (yielded ops a.tmps) = true then Oper.wp Tryz.prog o a w K Q else E := by
 have hw : Region.wanted o (yielded ops a.tmps) = true := by simp [Region.wanted, hg]
 rw [if_pos hw]
 have hrun := Ji w o.type B j dLen dCap b sLen sCap k q hk hsrc hc hf
 unfold Oper.wp execOp
 simp only [hop, resolve, invoke, builtin, Sem.run_bind, Sem.run_pure, Result.andThen_ok, List.map_toArray, List.map_cons, List.map_nil, hd, hs, hrun]
 exact hK
theorem D9 (w : World) (n : Nat) (hn : n ≤ 1000000) : (Instr.makeSlice 27 (.int .i64 n) (.int .i64 n)).run Tryz.prog w = .ok (.slice (some ⟨w.heap.size, 0, none⟩) n n) (w.alloc (.cells (madeCells #[I 0] n) 22)) := by
 obtain ⟨i0, hi0, hz0, hz1, hz2⟩ := info_parts JS
 have := run_make (P := Tryz.prog) w 27 22 i0 (I 0) Tryz.underlying27 hi0 hz0 .i64 .i64 n n (by omega) (Int.le_refl _) (by rw [hz2]; omega) (by omega)
 rw [hz1] at this
 simpa [Value.cells] using this
theorem Ol (n : Nat) : (madeCells #[I 0] n).toList = List.replicate n (I 0) := by
 unfold madeCells
 apply List.ext_getElem
 · simp
 · intro i h1 h2
   simp at h1 ⊢
   rw [Nat.mod_one]
   rfl
theorem Fj (b n : Nat) (q : Int) (w : World) (hb : w.cell? ⟨b, 0, none⟩ = some (I q)) (h1 : 1 ≤ n) (h8 : n ≤ 8) :
 Calls Tryz.prog 210 #[.slice (some ⟨b, 0, none⟩) 1 1, I n] w fun e w' => ∃ A c, e = .returned (.slice A n c) ∧ Own w' w.heap.size (.slice A n c) (List.replicate n q) ∧ Below w.heap.size w w' := by
 have hm : PQ.bits_Mul.f 1 (n : Int) = some ((0 : Int), (n : Int)) := by
  rcases (show n = 1 ∨ n = 2 ∨ n = 3 ∨ n = 4 ∨ n = 5 ∨ n = 6 ∨ n = 7 ∨ n = 8 by omega) with h | h | h | h | h | h | h | h <;> subst h <;> decide +kernel
 have HM := Lib.hid (fun w => PQ.bits_Mul.calls 1 n 0 n w hm)
 have e0 : decide ((n : Int) < 0) = false := decide_eq_false (by omega)
 have e1 : decide ((n : Int) > 9223372036854775807) = false := decide_eq_false (by omega)
 have e2 : IntKind.u64.wrap (n : Int) = n := by simp [IntKind.wrap, IntKind.bits, IntKind.signed]; omega
 have e3 : IntKind.i64.wrap (n : Int) = n := by simp [IntKind.wrap, IntKind.bits, IntKind.signed]; omega
 have H1 := Lib.hid h1
 have H8 := Lib.hid h8
 have HB := Lib.hid hb
 clear hm h1 h8 hb
 go_enter Tryz.func210, Tryz.ntmps210
 go_wp2_with fail
 refine (HM.out _).mono ?_
 rintro e w2 ⟨rfl, hd⟩
 have D2 := Lib.hid hd.below
 clear hd
 have hz := D9 w2 n (by have := H8.out; omega)
 have R0 : Hid (Rep (w2.alloc (.cells (madeCells #[I 0] n) 22)) w2.heap.size n q 0) := Lib.hid ⟨_, Row.new _ _ _, by rw [Ol]; simp⟩
 have B2 : Hid (Below w.heap.size w (w2.alloc (.cells (madeCells #[I 0] n) 22))) := Lib.hid (D2.out.alloc D2.out.size _)
 have S2 : Hid (w.heap.size ≤ w2.heap.size) := Lib.hid D2.out.size
 have hb2 : Hid ((w2.alloc (.cells (madeCells #[I 0] n) 22)).cell? ⟨b, 0, none⟩ = some (I q)) := Lib.hid ((B2.out.cell (p := ⟨b, 0, none⟩) (cell_lt HB.out)).trans HB.out)
 have hx0 : ∀ x, x < 1 → (w2.alloc (.cells (madeCells #[I 0] n) 22)).cell? ⟨b, x, none⟩ = some (I q) := by
  intro x hx
  have : x = 0 := by omega
  subst this
  exact hb2.out
 have hx1 : ∀ x, x < 1 → ((w2.alloc (.cells (madeCells #[I 0] n) 22)).cell? ⟨w2.heap.size, 0 + x, none⟩).isSome = true := by
  intro x hx
  have := H1.out
  exact R0.out.some (by omega) (by omega)
 have hx2 : 1 = Nat.min 1 n := (Nat.min_eq_left H1.out).symm
 have hcp := Ji (w2.alloc (.cells (madeCells #[I 0] n) 22)) 3 w2.heap.size 0 n n b 1 1 1 q hx2 hx0 hx1 R0.out.free
 clear hx0 hx1 hx2
 have R1 := Lib.hid (R0.out.put (k := 1) (by have := H1.out; omega))
 have B3 := Lib.hid (dA (B := w2.heap.size) (List.replicate 1 (I q)) 0 _ B2.out S2.out)
 obtain ⟨w3, hw3⟩ : ∃ w3, (w2.alloc (.cells (madeCells #[I 0] n) 22)).setCells w2.heap.size 0 (List.replicate 1 (I q)) = w3 := ⟨_, rfl⟩
 rw [hw3] at hcp R1 B3
 clear hw3
 go_wp2_with fail
 clear hcp hz R0 B2 hb2 D2
 go_loopw [8] (fun jj wr => ∃ j : Nat, 1 ≤ j ∧ j ≤ n ∧ jj = .int .i64 j ∧ Hid (Rep wr w2.heap.size n q j) ∧ Hid (Below w.heap.size w wr)) (fun jj _ => n - (intOf jj).toNat)
 case atStart => exact ⟨1, by omega, H1.out, rfl, by simpa using R1, B3⟩
 case round =>
  clear R1 B3
  obtain ⟨j, h1, hj, rfl, R, HB⟩ := hrel
  by_cases hjn : j = n
  · subst hjn
    go_wp2
    go_ret
    exact ⟨_, _, rfl, R.out.own S2.out (by have := H8.out; omega), HB.out⟩
  have hlt : (j : Int) < n := by omega
  have hj0 : (0 : Int) ≤ j := by omega
  have hjle : (j : Int) ≤ n := by omega
  have hne : ¬ n = j := by omega
  obtain ⟨k, hk⟩ : ∃ k, Nat.min j (n - j) = k := ⟨_, rfl⟩
  have hk2 : k ≤ j ∧ k ≤ n - j ∧ 1 ≤ k := by subst hk; exact ⟨Nat.min_le_left _ _, Nat.min_le_right _ _, Nat.le_min.2 ⟨h1, by omega⟩⟩
  have STEP : Hid (1 ≤ j + k ∧ j + k ≤ n ∧ n - (j + k) < n - j) := Lib.hid (by omega)
  have hw64 : IntKind.i64.wrap ((j : Int) + k) = ((j + k : Nat) : Int) := by have := H8.out; simp [IntKind.wrap, IntKind.bits, IntKind.signed]; omega
  have HK := Lib.hid hk
  have Ie := Lib.hid hk2
  have HJ := Lib.hid (show 1 ≤ j ∧ j < n by omega)
  clear hk hk2 h1 hj hjn
  have hq0 : ∀ x, x < k → wr.drew.cell? ⟨w2.heap.size, x, none⟩ = some (I q) := fun x hx => R.out.drew.cell (by have := Ie.out; omega)
  have hq1 : ∀ x, x < k → (wr.drew.cell? ⟨w2.heap.size, j + x, none⟩).isSome = true := fun x hx => R.out.drew.some (by have := Ie.out; have := HJ.out; omega) (by have := HJ.out; omega)
  have Q0 := Lib.hid hq0
  have Q1 := Lib.hid hq1
  clear hq0 hq1
  go_wp2_with fail
  go_region_held3 (fun w' => True)
   (first | trivial)
   (first
     | (refine NJ _ rfl (.tmp 41) (.tmp 44) rfl w2.heap.size j (n - j) (n - j) w2.heap.size j n k q rfl rfl HK.out.symm Q0.out Q1.out R.out.drew.free ?_
        have R2 := Lib.hid (R.out.drew.put (k := k) (by have := STEP.out; omega))
        have HB2 := Lib.hid (dA (B := w2.heap.size) (List.replicate k (I q)) j _ HB.out.drew S2.out)
        generalize wr.drew.setCells w2.heap.size j (List.replicate k (I q)) = w4 at R2 HB2 ⊢))
  all_goals
   go_wp2
   go_roundw
   case rel => exact ⟨j + k, STEP.out.1, STEP.out.2.1, by go_num, R2, HB2⟩
   case measure =>
    have h := STEP.out.2.2
    show n - ((j + k : Nat) : Int).toNat < n - ((j : Int)).toNat
    rw [Int.toNat_natCast, Int.toNat_natCast]
    exact h
def nJ (n : Nat) : List Int := gB (List.replicate n 16777216)
theorem OH (n : Nat) (w : World) (h1 : 1 ≤ n) (h8 : n ≤ 8) :
 Calls Tryz.prog 204 #[I n] w fun e w' => ∃ v, e = .returned (.tuple #[.agg #[I n, I n, v], I 0]) ∧ Own w' w.heap.size v (nJ n) ∧ Below w.heap.size w w' := by
 have N : Hid (bD w [(29, #[I 0, I 0, .slice none 0 0]), (22, #[I 16777216])] ((w.alloc (.cells #[I 0, I 0, .slice none 0 0] 29)).alloc (.cells #[I 16777216] 22))) := Lib.hid (((bD.none w).push (by simp) _ _).push (by simp) _ _)
 have e1 : decide ((n : Int) < 1) = false := decide_eq_false (by omega)
 have e2 : decide ((n : Int) > 8) = false := decide_eq_false (by omega)
 have HR := Lib.hid (Fj (w.heap.size + 1) n 16777216 _ (N.out.r1.cell 0) h1 h8)
 have hany : (List.replicate n (16777216 : Int)).any lJ = false := by
  rw [List.any_eq_false]
  intro x hx
  rw [List.eq_of_mem_replicate hx]
  decide
 have hlen : (List.replicate n (16777216 : Int)).length = n := by simp
 have HD := Lib.hid (fun A c w' h => yL A c (List.replicate n 16777216) w' h (by rw [hlen]; exact h1) (by rw [hlen]; exact h8) hany)
 obtain ⟨L, hL⟩ : ∃ L, nJ n = L := ⟨_, rfl⟩
 rw [hL]
 unfold nJ at hL
 rw [hlen, hL] at HD
 clear h1 h8 hany hlen hL
 go_enter Tryz.func204, Tryz.ntmps204
 go_wp2_with fail
 refine HR.out.mono ?_
 rintro e w2 ⟨A, c, rfl, ho, hb⟩
 have N2 := Lib.hid (N.out.below hb)
 obtain ⟨A', c', he, _, hr⟩ := ho.reads
 injection he with e1 e2 e3
 subst e1 e3
 have HR2 := Lib.hid hr
 clear hb ho hr e2 HR
 go_wp2_with fail
 refine (HD.out _ _ _ HR2.out).mono ?_
 rintro e w3 ⟨v, rfl, ho, hb⟩
 obtain ⟨A3, c3, rfl, _, _⟩ := ho.reads
 have O := Lib.hid ho
 have N3 := Lib.hid (N2.out.below hb)
 have L2 := N2.out.r1.lt
 clear hb ho
 have x0 := N3.out.r0.cell
 have g0 := N3.out.r0.free
 have t0 := N3.out.r0.lt
 go_wp2
 refine bodyPost_ret (L8 rfl rfl (N3.out.r0.dw _ _ _)) rfl ⟨_, rfl, ?_, Below.dw N3.out.be (by omega) _ _ _⟩
 exact (O.out.dw (by omega) _ _ _).lower (by omega)
end Go.Proofs.YtcfobekkchhbbaaGreat.KK

namespace Go.Proofs.YtcfobekkchhbbaaGreat.PQ
open Go.RowKit Go.Proofs.af.aQ Go.Proofs.af.a_ Go.Proofs.af.bg Go.Proofs.YtcfobekkchhbbaaGreat.KK
set_option linter.unusedVariables false
set_option linter.unusedSimpArgs false
theorem Qh {a b : Int} {n : Nat} (ha : 0 ≤ a) (hb : 0 ≤ b) (h : (n : Int) = a * b) : n = a.toNat * b.toNat := by
 obtain ⟨x, rfl⟩ := Int.eq_ofNat_of_zero_le ha
 obtain ⟨y, rfl⟩ := Int.eq_ofNat_of_zero_le hb
 simp only [Int.toNat_natCast]
 exact_mod_cast h
theorem toInt {a : Int} (ha : 0 ≤ a) : ((a.toNat : Nat) : Int) = a := by omega
def jM.f (aZ : Int) (bn : Int) (bf : List Int) : Option (Int × Int × List Int) := if 0 ≤ aZ ∧ aZ ≤ 8 ∧ 0 ≤ bn ∧ bn ≤ 8 ∧ (bf.length : Int) = aZ * bn then some (bn, aZ, xq aZ.toNat bn.toNat bf) else none
theorem jM.calls (aZ : Int) (bn : Int) (bU : Option Addr) (bT : Nat) (bf : List Int) (r1 : Int) (r2 : Int) (r3 : List Int) (w : World) (iV : Kd.C (Kd.int .i64) w bU bf.length bf) (jy : bf.length ≤ bT) (h : jM.f aZ bn bf = some (r1, r2, r3)) :
 Calls Tryz.prog 82 #[.agg #[.int .i64 aZ, .int .i64 bn, .slice bU bf.length bT]] w fun e w' => ∃ DY : Value, e = .returned (.agg #[.int .i64 r1, .int .i64 r2, DY]) ∧ Kd.R (Kd.int .i64) 22 w' w.heap.size (fun _ => True) DY r3 ∧ Below w.heap.size w w' := by
 unfold jM.f at h
 split at h
 · rename_i hs
   obtain ⟨s0, s1, s2, s3, s4⟩ := hs
   simp only [Option.some.injEq, Prod.mk.injEq] at h
   obtain ⟨rfl, rfl, rfl⟩ := h
   have := lQ aZ.toNat bn.toNat bU bT bf w (by omega) (by omega) (Qh s0 s2 s4) iV
   rw [toInt s0, toInt s2] at this
   exact this
 · cases h
def jl.f (aZ : Int) (bn : Int) (bf : List Int) (bP : Int) (bQ : Int) (bG : List Int) : Option (Int × Int × List Int × Bool × Int) :=
 if bn = bP then (if (0 ≤ aZ ∧ aZ ≤ 8 ∧ 0 ≤ bn ∧ bn ≤ 8 ∧ (bf.length : Int) = aZ * bn) ∧ (0 ≤ bP ∧ bP ≤ 8 ∧ 0 ≤ bQ ∧ bQ ≤ 8 ∧ (bG.length : Int) = bP * bQ) then some (aZ, bQ, mulL aZ.toNat bn.toNat bQ.toNat bf bG, ru aZ.toNat bn.toNat bQ.toNat bf bG, 0) else none) else some (0, 0, [], false, 9)
theorem jl.calls (aZ : Int) (bn : Int) (bU : Option Addr) (bT : Nat) (bf : List Int) (bP : Int) (bQ : Int) (eY : Option Addr) (fA : Nat) (bG : List Int) (r1 : Int) (r2 : Int) (r3 : List Int) (r4 : Bool) (r5 : Int) (w : World) (iV : Kd.C (Kd.int .i64) w bU bf.length bf) (jy : bf.length ≤ bT) (mG : Kd.C (Kd.int .i64) w eY bG.length bG) (nC : bG.length ≤ fA) (h : jl.f aZ bn bf bP bQ bG = some (r1, r2, r3, r4, r5)) :
 Calls Tryz.prog 152 #[.agg #[.int .i64 aZ, .int .i64 bn, .slice bU bf.length bT], .agg #[.int .i64 bP, .int .i64 bQ, .slice eY bG.length fA]] w fun e w' => ∃ DY : Value, e = .returned (.tuple #[.agg #[.int .i64 r1, .int .i64 r2, DY], .bool r4, .int .i64 r5]) ∧ Kd.R (Kd.int .i64) 22 w' w.heap.size (fun _ => True) DY r3 ∧ Below w.heap.size w w' := by
 unfold jl.f at h
 split at h
 · rename_i he
   subst he
   split at h
   · rename_i hs
     obtain ⟨⟨s0, s1, s2, s3, s4⟩, t0, t1, t2, t3, t4⟩ := hs
     simp only [Option.some.injEq, Prod.mk.injEq] at h
     obtain ⟨rfl, rfl, rfl, rfl, rfl⟩ := h
     have := xH aZ.toNat bn.toNat bQ.toNat bU eY bT fA bf bG w (by omega) (by omega) (by omega) (Qh s0 s2 s4) (Qh t0 t2 t4) iV mG
     rw [toInt s0, toInt s2, toInt t2] at this
     exact this
   · cases h
 · rename_i he
   simp only [Option.some.injEq, Prod.mk.injEq] at h
   obtain ⟨rfl, rfl, rfl, rfl, rfl⟩ := h
   refine (IG aZ bn bP bQ bU eY bT fA bf bG w he).mono ?_
   rintro e w' ⟨rfl, hb⟩
   exact ⟨_, rfl, Own.nil _ _, hb⟩
def pq.f (aZ : Int) (bn : Int) (bf : List Int) : Option (Int × Int × List Int × Bool × Int) := if aZ = bn ∧ 0 ≤ aZ ∧ aZ ≤ 8 ∧ 0 ≤ bn ∧ bn ≤ 8 ∧ (bf.length : Int) = aZ * bn then some (aZ, bn, Ec aZ.toNat bf, jS mW aZ.toNat aZ.toNat bf (xq aZ.toNat aZ.toNat bf), 0) else none
theorem pq.calls (aZ : Int) (bn : Int) (bU : Option Addr) (bT : Nat) (bf : List Int) (r1 : Int) (r2 : Int) (r3 : List Int) (r4 : Bool) (r5 : Int) (w : World) (iV : Kd.C (Kd.int .i64) w bU bf.length bf) (jy : bf.length ≤ bT) (h : pq.f aZ bn bf = some (r1, r2, r3, r4, r5)) :
 Calls Tryz.prog 188 #[.agg #[.int .i64 aZ, .int .i64 bn, .slice bU bf.length bT]] w fun e w' => ∃ DY : Value, e = .returned (.tuple #[.agg #[.int .i64 r1, .int .i64 r2, DY], .bool r4, .int .i64 r5]) ∧ Kd.R (Kd.int .i64) 22 w' w.heap.size (fun _ => True) DY r3 ∧ Below w.heap.size w w' := by
 unfold pq.f at h
 split at h
 · rename_i hs
   obtain ⟨rfl, s0, s1, s2, s3, s4⟩ := hs
   simp only [Option.some.injEq, Prod.mk.injEq] at h
   obtain ⟨rfl, rfl, rfl, rfl, rfl⟩ := h
   have := OJ aZ.toNat bU bT bf w (by omega) (Qh s0 s2 s4) iV jy
   rw [toInt s0] at this
   exact this
 · cases h
end Go.Proofs.YtcfobekkchhbbaaGreat.PQ

namespace Go.Proofs.YtcfobekkchhbbaaGreat.PR
open Go.RowKit Go.Proofs.YtcfobekkchhbbaaGreat.PQ Go.Proofs.af.aQ Go.Proofs.af.a_ Go.Proofs.af.bg
attribute [local go_sem] iJ iH jI jH gV gU iI iG
set_option linter.unusedVariables false
set_option linter.unusedSimpArgs false
def QI : Option Int → Value
 | none => .nilIface
 | some c => .iface 0 (.int .i64 c)
theorem aU : QI none = .nilIface := rfl
theorem aT (c : Int) : QI (some c) = .iface 0 (.int .i64 c) := rfl
end Go.Proofs.YtcfobekkchhbbaaGreat.PR

namespace Go.Proofs.YtcfobekkchhbbaaGreat.PR
open Go.RowKit Go.Proofs.YtcfobekkchhbbaaGreat.PQ Go.Proofs.af.aQ Go.Proofs.af.a_ Go.Proofs.af.bg
attribute [local go_sem] iJ iH jI jH gV gU iI iG
set_option linter.unusedVariables false
set_option linter.unusedSimpArgs false
def aJ (w0 W : World) (g : Nat) (f0 : Bool) : Prop := W.heap[g]? = some (.cells #[.bool f0] 213 (0, 0)) ∧ w0.heap.size ≤ g
theorem aJ.grown {w0 W : World} {g : Nat} {f0 : Bool} {W1 : World} {row : Option Nat} (h : aJ w0 W g f0) (hw : W.grownBy W1 row) (hne : some g ≠ row) : aJ w0 W1 g f0 := by
 obtain ⟨hb, hg⟩ := h
 exact ⟨Em hb hw hne, hg⟩
theorem aJ.below {w0 W : World} {g : Nat} {f0 : Bool} {W1 : World} (h : aJ w0 W g f0) (hw : Below W.heap.size W W1) : aJ w0 W1 g f0 := h.grown (fF hw none) (by simp)
theorem aJ.alloc {w0 W : World} {g : Nat} {f0 : Bool} (h : aJ w0 W g f0) (o : Obj) : aJ w0 (W.alloc o) g f0 := h.below (ak (Below.refl _ _) o)
theorem aJ.drewN {w0 W : World} {g : Nat} {f0 : Bool} (h : aJ w0 W g f0) (m : Nat) : aJ w0 (W.drewN m) g f0 := h
theorem aJ.drew {w0 W : World} {g : Nat} {f0 : Bool} (h : aJ w0 W g f0) : aJ w0 W.drew g f0 := h
theorem aJ.apart {w0 W : World} {g : Nat} {f0 : Bool} {α : Type} {d : Kd α} {e : Nat} {base : Nat} {ok : Nat → Prop} {v : Value} {xs : List α} (h : aJ w0 W g f0) (ho : d.R e W base ok v xs) (ht : ∀ q, q ∈ e :: d.E → q ≠ 213) : d.R e W base (fun k => ok k ∧ k ≠ g) v xs := by
 obtain ⟨hb, hg⟩ := h
 exact Kd.rW ho hb ht
theorem aJ.lt {w0 W : World} {g : Nat} {f0 : Bool} (h : aJ w0 W g f0) : g < W.heap.size := by
 obtain ⟨hb, hg⟩ := h
 exact eu hb
theorem aJ.ge {w0 W : World} {g : Nat} {f0 : Bool} (h : aJ w0 W g f0) : w0.heap.size ≤ g := by
 obtain ⟨hb, hg⟩ := h
 exact hg
theorem aJ.far {w0 W : World} {g : Nat} {f0 : Bool} {p : Addr} (h : aJ w0 W g f0) (hne : g ≠ p.block) (u : Value) : aJ w0 (W.setCell p u) g f0 := by
 obtain ⟨hb, hg⟩ := h
 exact ⟨lF hb hne u, hg⟩
theorem CG {W : World} {g : Nat} {f0 : Bool} (h : W.heap[g]? = some (.cells #[.bool f0] 213 (0, 0))) : W.cell? ⟨g, 0, none⟩ = some (.bool f0) := (az h 0).trans rfl
theorem aJ.iT {w0 W : World} {g : Nat} {f0 : Bool} (h : aJ w0 W g f0) (x : Bool) : aJ w0 (W.setCell ⟨g, 0, none⟩ (.bool x)) g x := by
 obtain ⟨hb, hg⟩ := h
 exact ⟨by simpa using MP hb 0 (.bool x), hg⟩
def dK.f (nH : Bool) (bP : Int) (bQ : Int) (bG : List Int) (a2 : Bool) (a3 : Int) : Option (Int × Int × List Int × Bool) := if nH = true then (some (bP, bQ, bG, true)) else (some (bP, bQ, bG, a2))
theorem dK.calls (g : Nat) (nH : Bool) (bP : Int) (bQ : Int) (qN : Nat → Prop) (JJ : Value) (bG : List Int) (a2 : Bool) (a3 : Int) (r1 : Int) (r2 : Int) (r3 : List Int) (r4 : Bool) (w0 w : World) (hI : aJ w0 w g nH) (hB : Below w0.heap.size w0 w) (Zt : Kd.R (Kd.int .i64) 22 w w0.heap.size qN JJ bG) (h : dK.f nH bP bQ bG a2 a3 = some (r1, r2, r3, r4)) :
 Calls Tryz.prog 151 #[.pointer (some ⟨g, 0, none⟩), .agg #[.int .i64 bP, .int .i64 bQ, JJ], .bool a2, .int .i64 a3] w fun e w' => ∃ DY : Value, e = .returned (.agg #[.int .i64 r1, .int .i64 r2, DY]) ∧ Kd.R (Kd.int .i64) 22 w' w0.heap.size (fun k_ => (qN k_ ∨ w.heap.size ≤ k_)) DY r3 ∧ aJ w0 w' g r4 ∧ Below w0.heap.size w0 w' ∧ Kept w w' (fun k_ => (qN k_) ∨ k_ = g) := by
 have DK := Tryz.underlying29
 have og := aj.mk (show Kd.R (Kd.int .i64) 22 w w0.heap.size (fun k_ => (qN k_ ∨ w.heap.size ≤ k_)) JJ bG from Kd.kJ Zt (fun k_ hk => (.inl hk)))
 have HI0 := aj.mk hI
 have HL := aj.mk hB.size
 clear hI
 have HK := aj.mk (Kept.refl w (fun k_ => (qN k_) ∨ k_ = g))
 have HW0 := aj.mk hB.size
 have HB := aj.mk hB
 clear hB
 have H : (if nH = true then (some (bP, bQ, bG, true)) else (some (bP, bQ, bG, a2))) = some (r1, r2, r3, r4) := h
 clear h
 by_cases c5 : nH = true
 · subst c5
   rw [if_pos rfl] at H
   simp only [Option.some.injEq, Prod.mk.injEq] at H
   obtain ⟨rfl, rfl, rfl, rfl⟩ := H
   obtain ⟨Yr, Xu, eo6⟩ := Kd.m_ og.out
   subst eo6
   go_enter Tryz.func151, Tryz.ntmps151
   go_wp2_with (first | ((with_reducible refine dI (N := 5) rfl ?_); refine cZ ?hg (N := 5) ?hd (cs := #[.int .i64 bP, .int .i64 bQ, .slice Yr bG.length Xu]) (t := 29) ?hr ?_; (case hd => rfl); (case hg => rfl); (case hr => first | (go_simp; done) | (go_simp; rfl)); intro jL hg w7 hbox hb; have bK := aj.mk (Kd.oN (by (with_reducible repeat (first | apply Kd.gI | apply Kd.gG | apply Kd.iL)); exact og.out) hb); have dW := aj.mk (aJ.below (by repeat (first | (with_reducible first | exact HI0.out | apply aJ.alloc | apply aJ.drewN | apply aJ.drew | apply aJ.iT) | exact HI0.out)) hb); have eG := aj.mk (Kept.below (S := (fun k_ => (qN k_) ∨ k_ = g)) (by repeat (first | (with_reducible first | exact HK.out | apply Kept.alloc | apply Kept.drewN | apply Kept.drew | refine Kept.setCell ?_ (.inl (.inr rfl)) _) | exact HK.out)) hb); have fP := aj.mk (aV (by repeat (first | (with_reducible first | exact HB.out | apply ak | apply ah | apply au | refine aA ?_ (aJ.ge HI0.out)) | exact HB.out)) hb); have jR := aj.mk (hbox); have jV := aj.mk ((by rw [hg]; exact (by first | exact HK.out.1 | exact (show Kept w _ (fun k_ => (qN k_) ∨ k_ = g) from by repeat (first | (with_reducible first | exact HK.out | apply Kept.alloc | apply Kept.drewN | apply Kept.drew | refine Kept.setCell ?_ (.inl (.inr rfl)) _) | exact HK.out)).1) : w.heap.size ≤ jL)); have kQ := aj.mk ((by rw [hg]; exact (bz (by repeat (first | (with_reducible first | exact HB.out | apply ak | apply ah | apply au | refine aA ?_ (aJ.ge HI0.out)) | exact HB.out))) : w0.heap.size ≤ jL)); have wC := aj.mk ((by rw [hg]; exact Nat.ne_of_lt (aJ.lt (show aJ w0 _ g true from by repeat (first | (with_reducible first | exact HI0.out | apply aJ.alloc | apply aJ.drewN | apply aJ.drew | apply aJ.iT) | exact HI0.out))) : g ≠ jL)); have zi := aj.mk ((by rw [hg]; exact Nat.ne_of_gt (aJ.lt (show aJ w0 _ g true from by repeat (first | (with_reducible first | exact HI0.out | apply aJ.alloc | apply aJ.drewN | apply aJ.drew | apply aJ.iT) | exact HI0.out))) : jL ≠ g)); clear og; clear HI0; clear HK; clear HB; have og := bK; have HI0 := dW; have HK := eG; have HB := fP; have kL := jR; have Di := jV; have Dl := kQ; have ng := wC; have H7 := zi; clear bK dW eG fP jR jV kQ wC zi; clear hb hbox hg) | ((with_reducible refine dI (N := 8) rfl ?_); refine cZ ?hg (N := 8) ?hd (cs := #[.int .i64 0, .int .i64 0, .slice none 0 0]) (t := 29) ?hr ?_; (case hd => rfl); (case hg => rfl); (case hr => first | (go_simp; done) | (go_simp; rfl)); intro jA hg w8 hbox hb; have bK := aj.mk (Kd.oN (by (with_reducible repeat (first | apply Kd.gI | apply Kd.gG | apply Kd.iL)); exact og.out) hb); have dW := aj.mk (aJ.below (by repeat (first | (with_reducible first | exact HI0.out | apply aJ.alloc | apply aJ.drewN | apply aJ.drew | apply aJ.iT | refine aJ.far ?_ ng.out _) | exact HI0.out)) hb); have eG := aj.mk (bI (g := jL) (o := .cells #[.int .i64 bP, .int .i64 bQ, .slice Yr bG.length Xu] 29 (0, 0)) (by (with_reducible repeat (first | refine aC ?_ _ | refine aH ?_ | refine aG ?_ _)); exact kL.out) hb); have fP := aj.mk (Kept.below (S := (fun k_ => (qN k_) ∨ k_ = g)) (by repeat (first | (with_reducible first | exact HK.out | apply Kept.alloc | apply Kept.drewN | apply Kept.drew | refine Kept.setCell ?_ (.inl (.inr rfl)) _ | refine Kept.setCell ?_ (.inr Di.out) _) | exact HK.out)) hb); have jR := aj.mk (aV (by repeat (first | (with_reducible first | exact HB.out | apply ak | apply ah | apply au | refine aA ?_ (aJ.ge HI0.out) | refine aA ?_ Dl.out) | exact HB.out)) hb); have jV := aj.mk (hbox); have kQ := aj.mk ((by rw [hg]; exact (by first | exact HK.out.1 | exact (show Kept w _ (fun k_ => (qN k_) ∨ k_ = g) from by repeat (first | (with_reducible first | exact HK.out | apply Kept.alloc | apply Kept.drewN | apply Kept.drew | refine Kept.setCell ?_ (.inl (.inr rfl)) _ | refine Kept.setCell ?_ (.inr Di.out) _) | exact HK.out)).1) : w.heap.size ≤ jA)); have wC := aj.mk ((by rw [hg]; exact (bz (by repeat (first | (with_reducible first | exact HB.out | apply ak | apply ah | apply au | refine aA ?_ (aJ.ge HI0.out) | refine aA ?_ Dl.out) | exact HB.out))) : w0.heap.size ≤ jA)); have zi := aj.mk ((by rw [hg]; exact Nat.ne_of_lt (eu (g := jL) (o := .cells #[.int .i64 bP, .int .i64 bQ, .slice Yr bG.length Xu] 29 (0, 0)) (by (with_reducible repeat (first | refine aC ?_ _ | refine aH ?_ | refine aG ?_ _)); exact kL.out)) : jL ≠ jA)); have Mc := aj.mk ((by rw [hg]; exact Nat.ne_of_gt (eu (g := jL) (o := .cells #[.int .i64 bP, .int .i64 bQ, .slice Yr bG.length Xu] 29 (0, 0)) (by (with_reducible repeat (first | refine aC ?_ _ | refine aH ?_ | refine aG ?_ _)); exact kL.out)) : jA ≠ jL)); have xG := aj.mk ((by rw [hg]; exact Nat.ne_of_lt (aJ.lt (show aJ w0 _ g true from by repeat (first | (with_reducible first | exact HI0.out | apply aJ.alloc | apply aJ.drewN | apply aJ.drew | apply aJ.iT | refine aJ.far ?_ ng.out _) | exact HI0.out))) : g ≠ jA)); have IE := aj.mk ((by rw [hg]; exact Nat.ne_of_gt (aJ.lt (show aJ w0 _ g true from by repeat (first | (with_reducible first | exact HI0.out | apply aJ.alloc | apply aJ.drewN | apply aJ.drew | apply aJ.iT | refine aJ.far ?_ ng.out _) | exact HI0.out))) : jA ≠ g)); clear og; clear HI0; clear kL; clear HK; clear HB; have og := bK; have HI0 := dW; have kL := eG; have HK := fP; have HB := jR; have nT := jV; have R_ := kQ; have Sj := wC; have yV := zi; have yU := Mc; have yf := xG; have yc := IE; clear bK dW eG fP jR jV kQ wC zi Mc xG IE; clear hb hbox hg; obtain ⟨Yj, ae0⟩ := HI0.out; have rJ := CG Yj; have rH := ay Yj 0; clear Yj ae0; have Zz := yV.out; have Zw := yU.out; have VU := H7.out; have VS := ng.out; have oI : w8.cell? ⟨jL, 0, none⟩ = some (.int .i64 bP) := (az kL.out 0).trans rfl; have oH : w8.cell? ⟨jL, 1, none⟩ = some (.int .i64 bQ) := (az kL.out 1).trans rfl; have oG : w8.cell? ⟨jL, 2, none⟩ = some (.slice Yr bG.length Xu) := (az kL.out 2).trans rfl; have oD := ay kL.out 0; have oz := ay kL.out 1; have ou := ay kL.out 2; have ag6 := yc.out; have agZ := yf.out; have adA : w8.cell? ⟨jA, 0, none⟩ = some (.int .i64 0) := (az nT.out 0).trans rfl; have adz : w8.cell? ⟨jA, 1, none⟩ = some (.int .i64 0) := (az nT.out 1).trans rfl; have ady : w8.cell? ⟨jA, 2, none⟩ = some (.slice none 0 0) := (az nT.out 2).trans rfl; have acV := ay nT.out 0; have acU := ay nT.out 1; have acT := ay nT.out 2))
   refine bodyPost_ret (results_cell_row rfl _ _ jA 29 #[.int .i64 bP, .int .i64 bQ, .slice Yr bG.length Xu] (0, 0) _ rfl (by (with_reducible repeat (first | refine aC ?_ _ | refine aH ?_ | refine aG ?_ _)); refine fH (cs := #[.int .i64 bP, .int .i64 bQ, .slice none 0 0]) ?_ 2 _ rfl; (with_reducible repeat (first | refine aC ?_ _ | refine aH ?_ | refine aG ?_ _)); refine fH (cs := #[.int .i64 bP, .int .i64 0, .slice none 0 0]) ?_ 1 _ rfl; (with_reducible repeat (first | refine aC ?_ _ | refine aH ?_ | refine aG ?_ _)); refine fH (cs := #[.int .i64 0, .int .i64 0, .slice none 0 0]) ?_ 0 _ rfl; (with_reducible repeat (first | refine aC ?_ _ | refine aH ?_ | refine aG ?_ _)); refine lF ?_ yc.out _; (with_reducible repeat (first | refine aC ?_ _ | refine aH ?_ | refine aG ?_ _)); exact nT.out) Tryz.underlying29 rfl (by kernel_rfl)) rfl ?_
   exact ⟨_, by first | rfl | (simp [aU, aT] <;> rfl) | (simp [*, aU, aT] <;> rfl), by (with_reducible repeat (first | apply Kd.gI | apply Kd.gG | apply Kd.iL)); exact Kd.kJ (Kd.lT (p := ⟨jA, 2, none⟩) (Kd.lT (p := ⟨jA, 1, none⟩) (Kd.lT (p := ⟨jA, 0, none⟩) (Kd.lT (p := ⟨g, 0, none⟩) (Kd.rW (aJ.apart HI0.out og.out (by decide)) nT.out (by decide)) (fun _ hk => hk.1.2) (.bool true)) (fun _ hk => hk.2) (.int .i64 bP)) (fun _ hk => hk.2) (.int .i64 bQ)) (fun _ hk => hk.2) (.slice Yr bG.length Xu)) (fun _ hk => hk.1.1), by repeat (first | (with_reducible first | exact HI0.out | apply aJ.alloc | apply aJ.drewN | apply aJ.drew | apply aJ.iT | refine aJ.far ?_ ng.out _ | refine aJ.far ?_ yf.out _) | exact HI0.out), by repeat (first | (with_reducible first | exact HB.out | apply ak | apply ah | apply au | refine aA ?_ (aJ.ge HI0.out) | refine aA ?_ Dl.out | refine aA ?_ Sj.out) | exact HB.out), by repeat (first | (with_reducible first | exact HK.out | apply Kept.alloc | apply Kept.drewN | apply Kept.drew | refine Kept.setCell ?_ (.inl (.inr rfl)) _ | refine Kept.setCell ?_ (.inr Di.out) _ | refine Kept.setCell ?_ (.inr R_.out) _) | exact HK.out)⟩
 · replace c5 := Bool.eq_false_iff.mpr c5
   subst c5
   have H1 : (some (bP, bQ, bG, a2)) = some (r1, r2, r3, r4) := by rw [if_neg (show ¬ (false = true) by decide)] at H; exact H
   clear H
   have H := H1
   clear H1
   simp only [Option.some.injEq, Prod.mk.injEq] at H
   obtain ⟨rfl, rfl, rfl, rfl⟩ := H
   obtain ⟨Lu, KZ, afr⟩ := Kd.m_ og.out
   subst afr
   go_enter Tryz.func151, Tryz.ntmps151
   go_wp2_with (first | ((with_reducible refine dI (N := 5) rfl ?_); refine cZ ?hg (N := 5) ?hd (cs := #[.int .i64 bP, .int .i64 bQ, .slice Lu bG.length KZ]) (t := 29) ?hr ?_; (case hd => rfl); (case hg => rfl); (case hr => first | (go_simp; done) | (go_simp; rfl)); intro jL hg w16 hbox hb; have bK := aj.mk (Kd.oN (by (with_reducible repeat (first | apply Kd.gI | apply Kd.gG | apply Kd.iL)); exact og.out) hb); have dW := aj.mk (aJ.below (by repeat (first | (with_reducible first | exact HI0.out | apply aJ.alloc | apply aJ.drewN | apply aJ.drew | apply aJ.iT) | exact HI0.out)) hb); have eG := aj.mk (Kept.below (S := (fun k_ => (qN k_) ∨ k_ = g)) (by repeat (first | (with_reducible first | exact HK.out | apply Kept.alloc | apply Kept.drewN | apply Kept.drew | refine Kept.setCell ?_ (.inl (.inr rfl)) _) | exact HK.out)) hb); have fP := aj.mk (aV (by repeat (first | (with_reducible first | exact HB.out | apply ak | apply ah | apply au | refine aA ?_ (aJ.ge HI0.out)) | exact HB.out)) hb); have jR := aj.mk (hbox); have jV := aj.mk ((by rw [hg]; exact (by first | exact HK.out.1 | exact (show Kept w _ (fun k_ => (qN k_) ∨ k_ = g) from by repeat (first | (with_reducible first | exact HK.out | apply Kept.alloc | apply Kept.drewN | apply Kept.drew | refine Kept.setCell ?_ (.inl (.inr rfl)) _) | exact HK.out)).1) : w.heap.size ≤ jL)); have kQ := aj.mk ((by rw [hg]; exact (bz (by repeat (first | (with_reducible first | exact HB.out | apply ak | apply ah | apply au | refine aA ?_ (aJ.ge HI0.out)) | exact HB.out))) : w0.heap.size ≤ jL)); have wC := aj.mk ((by rw [hg]; exact Nat.ne_of_lt (aJ.lt (show aJ w0 _ g false from by repeat (first | (with_reducible first | exact HI0.out | apply aJ.alloc | apply aJ.drewN | apply aJ.drew | apply aJ.iT) | exact HI0.out))) : g ≠ jL)); have zi := aj.mk ((by rw [hg]; exact Nat.ne_of_gt (aJ.lt (show aJ w0 _ g false from by repeat (first | (with_reducible first | exact HI0.out | apply aJ.alloc | apply aJ.drewN | apply aJ.drew | apply aJ.iT) | exact HI0.out))) : jL ≠ g)); clear og; clear HI0; clear HK; clear HB; have og := bK; have HI0 := dW; have HK := eG; have HB := fP; have kL := jR; have Di := jV; have Dl := kQ; have ng := wC; have H7 := zi; clear bK dW eG fP jR jV kQ wC zi; clear hb hbox hg) | ((with_reducible refine dI (N := 8) rfl ?_); refine cZ ?hg (N := 8) ?hd (cs := #[.int .i64 0, .int .i64 0, .slice none 0 0]) (t := 29) ?hr ?_; (case hd => rfl); (case hg => rfl); (case hr => first | (go_simp; done) | (go_simp; rfl)); intro jA hg Yy hbox hb; have bK := aj.mk (Kd.oN (by (with_reducible repeat (first | apply Kd.gI | apply Kd.gG | apply Kd.iL)); exact og.out) hb); have dW := aj.mk (aJ.below (by repeat (first | (with_reducible first | exact HI0.out | apply aJ.alloc | apply aJ.drewN | apply aJ.drew | apply aJ.iT | refine aJ.far ?_ ng.out _) | exact HI0.out)) hb); have eG := aj.mk (bI (g := jL) (o := .cells #[.int .i64 bP, .int .i64 bQ, .slice Lu bG.length KZ] 29 (0, 0)) (by (with_reducible repeat (first | refine aC ?_ _ | refine aH ?_ | refine aG ?_ _)); exact kL.out) hb); have fP := aj.mk (Kept.below (S := (fun k_ => (qN k_) ∨ k_ = g)) (by repeat (first | (with_reducible first | exact HK.out | apply Kept.alloc | apply Kept.drewN | apply Kept.drew | refine Kept.setCell ?_ (.inl (.inr rfl)) _ | refine Kept.setCell ?_ (.inr Di.out) _) | exact HK.out)) hb); have jR := aj.mk (aV (by repeat (first | (with_reducible first | exact HB.out | apply ak | apply ah | apply au | refine aA ?_ (aJ.ge HI0.out) | refine aA ?_ Dl.out) | exact HB.out)) hb); have jV := aj.mk (hbox); have kQ := aj.mk ((by rw [hg]; exact (by first | exact HK.out.1 | exact (show Kept w _ (fun k_ => (qN k_) ∨ k_ = g) from by repeat (first | (with_reducible first | exact HK.out | apply Kept.alloc | apply Kept.drewN | apply Kept.drew | refine Kept.setCell ?_ (.inl (.inr rfl)) _ | refine Kept.setCell ?_ (.inr Di.out) _) | exact HK.out)).1) : w.heap.size ≤ jA)); have wC := aj.mk ((by rw [hg]; exact (bz (by repeat (first | (with_reducible first | exact HB.out | apply ak | apply ah | apply au | refine aA ?_ (aJ.ge HI0.out) | refine aA ?_ Dl.out) | exact HB.out))) : w0.heap.size ≤ jA)); have zi := aj.mk ((by rw [hg]; exact Nat.ne_of_lt (eu (g := jL) (o := .cells #[.int .i64 bP, .int .i64 bQ, .slice Lu bG.length KZ] 29 (0, 0)) (by (with_reducible repeat (first | refine aC ?_ _ | refine aH ?_ | refine aG ?_ _)); exact kL.out)) : jL ≠ jA)); have Mc := aj.mk ((by rw [hg]; exact Nat.ne_of_gt (eu (g := jL) (o := .cells #[.int .i64 bP, .int .i64 bQ, .slice Lu bG.length KZ] 29 (0, 0)) (by (with_reducible repeat (first | refine aC ?_ _ | refine aH ?_ | refine aG ?_ _)); exact kL.out)) : jA ≠ jL)); have xG := aj.mk ((by rw [hg]; exact Nat.ne_of_lt (aJ.lt (show aJ w0 _ g false from by repeat (first | (with_reducible first | exact HI0.out | apply aJ.alloc | apply aJ.drewN | apply aJ.drew | apply aJ.iT | refine aJ.far ?_ ng.out _) | exact HI0.out))) : g ≠ jA)); have IE := aj.mk ((by rw [hg]; exact Nat.ne_of_gt (aJ.lt (show aJ w0 _ g false from by repeat (first | (with_reducible first | exact HI0.out | apply aJ.alloc | apply aJ.drewN | apply aJ.drew | apply aJ.iT | refine aJ.far ?_ ng.out _) | exact HI0.out))) : jA ≠ g)); clear og; clear HI0; clear kL; clear HK; clear HB; have og := bK; have HI0 := dW; have kL := eG; have HK := fP; have HB := jR; have nT := jV; have R_ := kQ; have Sj := wC; have yV := zi; have yU := Mc; have yf := xG; have yc := IE; clear bK dW eG fP jR jV kQ wC zi Mc xG IE; clear hb hbox hg; obtain ⟨RY, ZF⟩ := HI0.out; have MG := CG RY; have MC := ay RY 0; clear RY ZF; have ag3 := yV.out; have agW := yU.out; have ag2 := H7.out; have agV := ng.out; have ado : Yy.cell? ⟨jL, 0, none⟩ = some (.int .i64 bP) := (az kL.out 0).trans rfl; have adn : Yy.cell? ⟨jL, 1, none⟩ = some (.int .i64 bQ) := (az kL.out 1).trans rfl; have adm : Yy.cell? ⟨jL, 2, none⟩ = some (.slice Lu bG.length KZ) := (az kL.out 2).trans rfl; have acJ := ay kL.out 0; have acI := ay kL.out 1; have acH := ay kL.out 2; have VT := yc.out; have VR := yf.out; have UN : Yy.cell? ⟨jA, 0, none⟩ = some (.int .i64 0) := (az nT.out 0).trans rfl; have UM : Yy.cell? ⟨jA, 1, none⟩ = some (.int .i64 0) := (az nT.out 1).trans rfl; have UL : Yy.cell? ⟨jA, 2, none⟩ = some (.slice none 0 0) := (az nT.out 2).trans rfl; have Uo := ay nT.out 0; have Un := ay nT.out 1; have Um := ay nT.out 2))
   refine bodyPost_ret (results_cell_row rfl _ _ jA 29 #[.int .i64 bP, .int .i64 bQ, .slice Lu bG.length KZ] (0, 0) _ rfl (by (with_reducible repeat (first | refine aC ?_ _ | refine aH ?_ | refine aG ?_ _)); refine fH (cs := #[.int .i64 bP, .int .i64 bQ, .slice none 0 0]) ?_ 2 _ rfl; (with_reducible repeat (first | refine aC ?_ _ | refine aH ?_ | refine aG ?_ _)); refine fH (cs := #[.int .i64 bP, .int .i64 0, .slice none 0 0]) ?_ 1 _ rfl; (with_reducible repeat (first | refine aC ?_ _ | refine aH ?_ | refine aG ?_ _)); refine fH (cs := #[.int .i64 0, .int .i64 0, .slice none 0 0]) ?_ 0 _ rfl; (with_reducible repeat (first | refine aC ?_ _ | refine aH ?_ | refine aG ?_ _)); refine lF ?_ yc.out _; (with_reducible repeat (first | refine aC ?_ _ | refine aH ?_ | refine aG ?_ _)); exact nT.out) Tryz.underlying29 rfl (by kernel_rfl)) rfl ?_
   exact ⟨_, by first | rfl | (simp [aU, aT] <;> rfl) | (simp [*, aU, aT] <;> rfl), by (with_reducible repeat (first | apply Kd.gI | apply Kd.gG | apply Kd.iL)); exact Kd.kJ (Kd.lT (p := ⟨jA, 2, none⟩) (Kd.lT (p := ⟨jA, 1, none⟩) (Kd.lT (p := ⟨jA, 0, none⟩) (Kd.lT (p := ⟨g, 0, none⟩) (Kd.rW (aJ.apart HI0.out og.out (by decide)) nT.out (by decide)) (fun _ hk => hk.1.2) (.bool a2)) (fun _ hk => hk.2) (.int .i64 bP)) (fun _ hk => hk.2) (.int .i64 bQ)) (fun _ hk => hk.2) (.slice Lu bG.length KZ)) (fun _ hk => hk.1.1), by repeat (first | (with_reducible first | exact HI0.out | apply aJ.alloc | apply aJ.drewN | apply aJ.drew | apply aJ.iT | refine aJ.far ?_ ng.out _ | refine aJ.far ?_ yf.out _) | exact HI0.out), by repeat (first | (with_reducible first | exact HB.out | apply ak | apply ah | apply au | refine aA ?_ (aJ.ge HI0.out) | refine aA ?_ Dl.out | refine aA ?_ Sj.out) | exact HB.out), by repeat (first | (with_reducible first | exact HK.out | apply Kept.alloc | apply Kept.drewN | apply Kept.drew | refine Kept.setCell ?_ (.inl (.inr rfl)) _ | refine Kept.setCell ?_ (.inr Di.out) _ | refine Kept.setCell ?_ (.inr R_.out) _) | exact HK.out)⟩
def bV.f (nH : Bool) (bP : Int) (bQ : Int) (bG : List Int) (mg : Int) (l_ : Int) (kM : List Int) : Option (Int × Int × List Int × Bool) := (jl.f bP bQ bG mg l_ kM).bind fun uC => ((dK.f nH uC.1 uC.2.1 uC.2.2.1 uC.2.2.2.1 uC.2.2.2.2).bind fun qA => ((jM.f bP bQ bG).bind fun pM => ((jl.f qA.1 qA.2.1 qA.2.2.1 pM.1 pM.2.1 pM.2.2).bind fun iZ => ((dK.f qA.2.2.2 iZ.1 iZ.2.1 iZ.2.2.1 iZ.2.2.2.1 iZ.2.2.2.2).bind fun iW => (some (iW.1, iW.2.1, iW.2.2.1, iW.2.2.2))))))
def bV.T1 : Bool × List (List Nat × List Nat) := (true, [([], []), ([], []), ([], []), ([], []), ([2, 3], [2, 3]), ([4], [4]), ([4], [4]), ([4], [4]), ([1, 5, 6, 7, 4], [1, 5, 6, 7]), ([], []), ([9, 8], [9]), ([8, 10, 10], [8, 10]), ([11], [11]), ([11], [11]), ([11], [11]), ([0, 12, 13, 14, 11], [0, 12, 13, 14]), ([15, 15, 0, 1, 2, 3, 4, 5, 6, 7, 8, 9, 10, 11, 12, 13, 14, 15], [15])])
def bV.B1 : List Nat := [0, 0, 0, 0, 12, 28, 28, 28, 254, 0, 1022, 2046, 4094, 4094, 4094, 32767, 65535]
theorem bV.SL : o9 .any (opsOf Tryz.f154 1) = bV.T1 := by kernel_rfl
theorem bV.MQ : qV bV.T1.2 bV.B1 = true := by kernel_rfl
theorem bV.calls (g : Nat) (nH : Bool) (bP : Int) (bQ : Int) (eY : Option Addr) (fA : Nat) (bG : List Int) (mg : Int) (l_ : Int) (qH : Option Addr) (rQ : Nat) (kM : List Int) (r1 : Int) (r2 : Int) (r3 : List Int) (r4 : Bool) (w0 w : World) (hI : aJ w0 w g nH) (hB : Below w0.heap.size w0 w) (mG : Kd.C (Kd.int .i64) w eY bG.length bG) (nC : bG.length ≤ fA) (I7 : ∀ ad, eY = some ad → 0 < bG.length → ad.block ≠ g) (IQ : Kd.C (Kd.int .i64) w qH kM.length kM) (I8 : kM.length ≤ rQ) (I5 : ∀ ad, qH = some ad → 0 < kM.length → ad.block ≠ g) (h : bV.f nH bP bQ bG mg l_ kM = some (r1, r2, r3, r4)) :
 Calls Tryz.prog 154 #[.pointer (some ⟨g, 0, none⟩), .agg #[.int .i64 bP, .int .i64 bQ, .slice eY bG.length fA], .agg #[.int .i64 mg, .int .i64 l_, .slice qH kM.length rQ]] w fun e w' => ∃ DY : Value, e = .returned (.agg #[.int .i64 r1, .int .i64 r2, DY]) ∧ Kd.R (Kd.int .i64) 22 w' w.heap.size (fun _ => True) DY r3 ∧ aJ w0 w' g r4 ∧ Below w0.heap.size w0 w' ∧ bH w w' g none := by
 have DK := Tryz.underlying29
 have qQ := aj.mk mG
 have uJ := aj.mk nC
 clear mG nC
 have abh := aj.mk IQ
 have abq := aj.mk I8
 clear IQ I8
 have HI0 := aj.mk hI
 have HK := aj.mk (bH.refl w g none)
 have HL := aj.mk hB.size
 clear hI
 have HW0 := aj.mk hB.size
 have HB := aj.mk hB
 clear hB
 have H : ((jl.f bP bQ bG mg l_ kM).bind fun uC => ((dK.f nH uC.1 uC.2.1 uC.2.2.1 uC.2.2.2.1 uC.2.2.2.2).bind fun qA => ((jM.f bP bQ bG).bind fun pM => ((jl.f qA.1 qA.2.1 qA.2.2.1 pM.1 pM.2.1 pM.2.2).bind fun iZ => ((dK.f qA.2.2.2 iZ.1 iZ.2.1 iZ.2.2.1 iZ.2.2.2.1 iZ.2.2.2.2).bind fun iW => (some (iW.1, iW.2.1, iW.2.2.1, iW.2.2.2))))))) = some (r1, r2, r3, r4) := h
 clear h
 replace H := Option.bind_eq_some_iff.mp H
 obtain ⟨⟨t106, t107, t108, t111, t112⟩, JA, H⟩ := H
 replace H : ((dK.f nH t106 t107 t108 t111 t112).bind fun qA => ((jM.f bP bQ bG).bind fun pM => ((jl.f qA.1 qA.2.1 qA.2.2.1 pM.1 pM.2.1 pM.2.2).bind fun iZ => ((dK.f qA.2.2.2 iZ.1 iZ.2.1 iZ.2.2.1 iZ.2.2.2.1 iZ.2.2.2.2).bind fun iW => (some (iW.1, iW.2.1, iW.2.2.1, iW.2.2.2)))))) = some (r1, r2, r3, r4) := H
 have A4 := aj.mk JA
 clear JA
 replace H := Option.bind_eq_some_iff.mp H
 obtain ⟨⟨t113, t114, t115, t118⟩, Wx, H⟩ := H
 replace H : ((jM.f bP bQ bG).bind fun pM => ((jl.f t113 t114 t115 pM.1 pM.2.1 pM.2.2).bind fun iZ => ((dK.f t118 iZ.1 iZ.2.1 iZ.2.2.1 iZ.2.2.2.1 iZ.2.2.2.2).bind fun iW => (some (iW.1, iW.2.1, iW.2.2.1, iW.2.2.2))))) = some (r1, r2, r3, r4) := H
 have A5 := aj.mk Wx
 clear Wx
 replace H := Option.bind_eq_some_iff.mp H
 obtain ⟨⟨t119, t120, t121⟩, Wv, H⟩ := H
 replace H : ((jl.f t113 t114 t115 t119 t120 t121).bind fun iZ => ((dK.f t118 iZ.1 iZ.2.1 iZ.2.2.1 iZ.2.2.2.1 iZ.2.2.2.2).bind fun iW => (some (iW.1, iW.2.1, iW.2.2.1, iW.2.2.2)))) = some (r1, r2, r3, r4) := H
 have A6 := aj.mk Wv
 clear Wv
 replace H := Option.bind_eq_some_iff.mp H
 obtain ⟨⟨t124, t125, t126, t129, t130⟩, A70, H⟩ := H
 replace H : ((dK.f t118 t124 t125 t126 t129 t130).bind fun iW => (some (iW.1, iW.2.1, iW.2.2.1, iW.2.2.2))) = some (r1, r2, r3, r4) := H
 have A7 := aj.mk A70
 clear A70
 replace H := Option.bind_eq_some_iff.mp H
 obtain ⟨⟨t131, t132, t133, t136⟩, A80, H⟩ := H
 replace H : (some (t131, t132, t133, t136)) = some (r1, r2, r3, r4) := H
 have A8 := aj.mk A80
 clear A80
 simp only [Option.some.injEq, Prod.mk.injEq] at H
 obtain ⟨rfl, rfl, rfl, rfl⟩ := H
 go_enter Tryz.func154, Tryz.ntmps154
 try go_wp2_with (first | ((with_reducible refine dI (N := 4) rfl ?_); refine cZ ?hg (N := 4) ?hd (cs := #[.int .i64 bP, .int .i64 bQ, .slice eY bG.length fA]) (t := 29) ?hr ?_; (case hd => rfl); (case hg => rfl); (case hr => first | (go_simp; done) | (go_simp; rfl)); intro kZ hg w9 hbox hb; have bK := aj.mk (aJ.below (by repeat (first | (with_reducible first | exact HI0.out | apply aJ.alloc | apply aJ.drewN | apply aJ.drew | apply aJ.iT) | exact HI0.out)) hb); have dW := aj.mk (bH.trans (by repeat (first | (with_reducible first | exact HK.out | apply bH.oZ | apply dO | apply dU | apply dP) | exact HK.out)) (bH.of_below hb g none) (.inl rfl)); have eG := aj.mk (aV (by repeat (first | (with_reducible first | exact HB.out | apply ak | apply ah | apply au | refine aA ?_ (aJ.ge HI0.out)) | exact HB.out)) hb); have fP := aj.mk (hbox); have jR := aj.mk ((by rw [hg]; exact (jw (w := w) (g := g) (row := none) (by repeat (first | (with_reducible first | exact HK.out | apply bH.oZ | apply dO | apply dU | apply dP) | exact HK.out))) : w.heap.size ≤ kZ)); have jV := aj.mk ((Nat.le_trans HW0.out (by rw [hg]; exact (jw (w := w) (g := g) (row := none) (by repeat (first | (with_reducible first | exact HK.out | apply bH.oZ | apply dO | apply dU | apply dP) | exact HK.out))) : w.heap.size ≤ kZ) : w0.heap.size ≤ kZ)); have kQ := aj.mk ((by rw [hg]; exact Nat.ne_of_lt (aJ.lt (show aJ w0 _ g nH from by repeat (first | (with_reducible first | exact HI0.out | apply aJ.alloc | apply aJ.drewN | apply aJ.drew | apply aJ.iT) | exact HI0.out))) : g ≠ kZ)); have wC := aj.mk ((by rw [hg]; exact Nat.ne_of_gt (aJ.lt (show aJ w0 _ g nH from by repeat (first | (with_reducible first | exact HI0.out | apply aJ.alloc | apply aJ.drewN | apply aJ.drew | apply aJ.iT) | exact HI0.out))) : kZ ≠ g)); clear HI0; clear HK; clear HB; have HI0 := bK; have HK := dW; have HB := eG; have fC := fP; have lZ := jR; have zM := jV; have lG := kQ; have Nq := wC; clear bK dW eG fP jR jV kQ wC; clear hb hbox hg) | ((with_reducible refine dI (N := 5) rfl ?_); refine cZ ?hg (N := 5) ?hd (cs := #[.int .i64 mg, .int .i64 l_, .slice qH kM.length rQ]) (t := 29) ?hr ?_; (case hd => rfl); (case hg => rfl); (case hr => first | (go_simp; done) | (go_simp; rfl)); intro nG hg w10 hbox hb; have bK := aj.mk (aJ.below (by repeat (first | (with_reducible first | exact HI0.out | apply aJ.alloc | apply aJ.drewN | apply aJ.drew | apply aJ.iT | refine aJ.far ?_ lG.out _) | exact HI0.out)) hb); have dW := aj.mk (bI (g := kZ) (o := .cells #[.int .i64 bP, .int .i64 bQ, .slice eY bG.length fA] 29 (0, 0)) (by (with_reducible repeat (first | refine aC ?_ _ | refine aH ?_ | refine aG ?_ _)); exact fC.out) hb); have eG := aj.mk (bH.trans (by repeat (first | (with_reducible first | exact HK.out | apply bH.oZ | apply dO | apply dU | apply dP | refine bM ?_ lZ.out _) | exact HK.out)) (bH.of_below hb g none) (.inl rfl)); have fP := aj.mk (aV (by repeat (first | (with_reducible first | exact HB.out | apply ak | apply ah | apply au | refine aA ?_ (aJ.ge HI0.out) | refine aA ?_ zM.out) | exact HB.out)) hb); have jR := aj.mk (hbox); have jV := aj.mk ((by rw [hg]; exact (jw (w := w) (g := g) (row := none) (by repeat (first | (with_reducible first | exact HK.out | apply bH.oZ | apply dO | apply dU | apply dP | refine bM ?_ lZ.out _) | exact HK.out))) : w.heap.size ≤ nG)); have kQ := aj.mk ((Nat.le_trans HW0.out (by rw [hg]; exact (jw (w := w) (g := g) (row := none) (by repeat (first | (with_reducible first | exact HK.out | apply bH.oZ | apply dO | apply dU | apply dP | refine bM ?_ lZ.out _) | exact HK.out))) : w.heap.size ≤ nG) : w0.heap.size ≤ nG)); have wC := aj.mk ((by rw [hg]; exact Nat.ne_of_lt (eu (g := kZ) (o := .cells #[.int .i64 bP, .int .i64 bQ, .slice eY bG.length fA] 29 (0, 0)) (by (with_reducible repeat (first | refine aC ?_ _ | refine aH ?_ | refine aG ?_ _)); exact fC.out)) : kZ ≠ nG)); have zi := aj.mk ((by rw [hg]; exact Nat.ne_of_gt (eu (g := kZ) (o := .cells #[.int .i64 bP, .int .i64 bQ, .slice eY bG.length fA] 29 (0, 0)) (by (with_reducible repeat (first | refine aC ?_ _ | refine aH ?_ | refine aG ?_ _)); exact fC.out)) : nG ≠ kZ)); have Mc := aj.mk ((by rw [hg]; exact Nat.ne_of_lt (aJ.lt (show aJ w0 _ g nH from by repeat (first | (with_reducible first | exact HI0.out | apply aJ.alloc | apply aJ.drewN | apply aJ.drew | apply aJ.iT | refine aJ.far ?_ lG.out _) | exact HI0.out))) : g ≠ nG)); have xG := aj.mk ((by rw [hg]; exact Nat.ne_of_gt (aJ.lt (show aJ w0 _ g nH from by repeat (first | (with_reducible first | exact HI0.out | apply aJ.alloc | apply aJ.drewN | apply aJ.drew | apply aJ.iT | refine aJ.far ?_ lG.out _) | exact HI0.out))) : nG ≠ g)); clear HI0; clear fC; clear HK; clear HB; have HI0 := bK; have fC := dW; have HK := eG; have HB := fP; have fJ := jR; have nS := jV; have Dk := kQ; have YO := wC; have YN := zi; have oO := Mc; have Np := xG; clear bK dW eG fP jR jV kQ wC zi Mc xG; clear hb hbox hg) | ((with_reducible refine dI (N := 6) rfl ?_); refine cZ ?hg (N := 6) ?hd (cs := #[.int .i64 0, .int .i64 0, .slice none 0 0]) (t := 29) ?hr ?_; (case hd => rfl); (case hg => rfl); (case hr => first | (go_simp; done) | (go_simp; rfl)); intro gJ hg zQ hbox hb; have bK := aj.mk (aJ.below (by repeat (first | (with_reducible first | exact HI0.out | apply aJ.alloc | apply aJ.drewN | apply aJ.drew | apply aJ.iT | refine aJ.far ?_ lG.out _ | refine aJ.far ?_ oO.out _) | exact HI0.out)) hb); have dW := aj.mk (bI (g := kZ) (o := .cells #[.int .i64 bP, .int .i64 bQ, .slice eY bG.length fA] 29 (0, 0)) (by (with_reducible repeat (first | refine aC ?_ _ | refine aH ?_ | refine aG ?_ _)); exact fC.out) hb); have eG := aj.mk (bI (g := nG) (o := .cells #[.int .i64 mg, .int .i64 l_, .slice qH kM.length rQ] 29 (0, 0)) (by (with_reducible repeat (first | refine aC ?_ _ | refine aH ?_ | refine aG ?_ _)); exact fJ.out) hb); have fP := aj.mk (bH.trans (by repeat (first | (with_reducible first | exact HK.out | apply bH.oZ | apply dO | apply dU | apply dP | refine bM ?_ lZ.out _ | refine bM ?_ nS.out _) | exact HK.out)) (bH.of_below hb g none) (.inl rfl)); have jR := aj.mk (aV (by repeat (first | (with_reducible first | exact HB.out | apply ak | apply ah | apply au | refine aA ?_ (aJ.ge HI0.out) | refine aA ?_ zM.out | refine aA ?_ Dk.out) | exact HB.out)) hb); have jV := aj.mk (hbox); have kQ := aj.mk ((by rw [hg]; exact (jw (w := w) (g := g) (row := none) (by repeat (first | (with_reducible first | exact HK.out | apply bH.oZ | apply dO | apply dU | apply dP | refine bM ?_ lZ.out _ | refine bM ?_ nS.out _) | exact HK.out))) : w.heap.size ≤ gJ)); have wC := aj.mk ((Nat.le_trans HW0.out (by rw [hg]; exact (jw (w := w) (g := g) (row := none) (by repeat (first | (with_reducible first | exact HK.out | apply bH.oZ | apply dO | apply dU | apply dP | refine bM ?_ lZ.out _ | refine bM ?_ nS.out _) | exact HK.out))) : w.heap.size ≤ gJ) : w0.heap.size ≤ gJ)); have zi := aj.mk ((by rw [hg]; exact Nat.ne_of_lt (eu (g := kZ) (o := .cells #[.int .i64 bP, .int .i64 bQ, .slice eY bG.length fA] 29 (0, 0)) (by (with_reducible repeat (first | refine aC ?_ _ | refine aH ?_ | refine aG ?_ _)); exact fC.out)) : kZ ≠ gJ)); have Mc := aj.mk ((by rw [hg]; exact Nat.ne_of_gt (eu (g := kZ) (o := .cells #[.int .i64 bP, .int .i64 bQ, .slice eY bG.length fA] 29 (0, 0)) (by (with_reducible repeat (first | refine aC ?_ _ | refine aH ?_ | refine aG ?_ _)); exact fC.out)) : gJ ≠ kZ)); have xG := aj.mk ((by rw [hg]; exact Nat.ne_of_lt (eu (g := nG) (o := .cells #[.int .i64 mg, .int .i64 l_, .slice qH kM.length rQ] 29 (0, 0)) (by (with_reducible repeat (first | refine aC ?_ _ | refine aH ?_ | refine aG ?_ _)); exact fJ.out)) : nG ≠ gJ)); have IE := aj.mk ((by rw [hg]; exact Nat.ne_of_gt (eu (g := nG) (o := .cells #[.int .i64 mg, .int .i64 l_, .slice qH kM.length rQ] 29 (0, 0)) (by (with_reducible repeat (first | refine aC ?_ _ | refine aH ?_ | refine aG ?_ _)); exact fJ.out)) : gJ ≠ nG)); have Zd := aj.mk ((by rw [hg]; exact Nat.ne_of_lt (aJ.lt (show aJ w0 _ g nH from by repeat (first | (with_reducible first | exact HI0.out | apply aJ.alloc | apply aJ.drewN | apply aJ.drew | apply aJ.iT | refine aJ.far ?_ lG.out _ | refine aJ.far ?_ oO.out _) | exact HI0.out))) : g ≠ gJ)); have Zc := aj.mk ((by rw [hg]; exact Nat.ne_of_gt (aJ.lt (show aJ w0 _ g nH from by repeat (first | (with_reducible first | exact HI0.out | apply aJ.alloc | apply aJ.drewN | apply aJ.drew | apply aJ.iT | refine aJ.far ?_ lG.out _ | refine aJ.far ?_ oO.out _) | exact HI0.out))) : gJ ≠ g)); clear HI0; clear fC; clear fJ; clear HK; clear HB; have HI0 := bK; have fC := dW; have fJ := eG; have HK := fP; have HB := jR; have jf := jV; have qC := kQ; have EN := wC; have iQ := zi; have yT := Mc; have iP := xG; have yS := IE; have vW := Zd; have Nl := Zc; clear bK dW eG fP jR jV kQ wC zi Mc xG IE Zd Zc; clear hb hbox hg))
 have bK := aj.mk (aH fC.out)
 have dW := aj.mk (aH fJ.out)
 have eG := aj.mk (aH jf.out)
 have fP := aj.mk (aJ.drew HI0.out)
 have jR := aj.mk (dU HK.out)
 have jV := aj.mk (au HB.out)
 clear fC
 clear fJ
 clear jf
 clear HI0
 clear HK
 clear HB
 have fC := bK
 have fJ := dW
 have jf := eG
 have HI0 := fP
 have HK := jR
 have HB := jV
 clear bK dW eG fP jR jV
 refine Ff (n := 17) (S := fun w' => w'.cell? ⟨kZ, 0, none⟩ = some (.int .i64 bP) ∧ w'.cell? ⟨kZ, 1, none⟩ = some (.int .i64 bQ) ∧ w'.cell? ⟨kZ, 2, none⟩ = some (.slice eY bG.length fA) ∧ w'.cell? ⟨nG, 0, none⟩ = some (.int .i64 mg) ∧ w'.cell? ⟨nG, 1, none⟩ = some (.int .i64 l_) ∧ w'.cell? ⟨nG, 2, none⟩ = some (.slice qH kM.length rQ)) (ds := []) #[false, false, false, false, false, false, false, false, false, false, false, false, false, false, false, false, false] (by kernel_rfl) rfl rfl ⟨(az fC.out 0).trans rfl, (az fC.out 1).trans rfl, (az fC.out 2).trans rfl, (az fJ.out 0).trans rfl, (az fJ.out 1).trans rfl, (az fJ.out 2).trans rfl⟩ (fun hHeld => ?_); refine uU bV.SL bV.MQ (fun kK Ju => ?_)
 generalize zQ.drew = w12 at fC fJ jf HI0 HK HB hHeld ⊢
 refine gz (i := 0) (N := some 7) (v := ?_) (a' := ?_) #[true, false, false, false, false, false, false, false, false, false, false, false, false, false, false, false, false] rfl rfl (dZ kK.out (by kernel_rfl)) (fun _ _ _ h => h) (Or.inl ⟨by rfl, ?_⟩) ?_ ?_
 rotate_left
 · intro w'
   go_simp
   with_reducible rfl
 rotate_left
 · simp only [Act.put, List.setIfInBounds_toArray, List.set_cons_zero, List.set_cons_succ, dB, dD]
   rfl
 refine gz (i := 1) (N := some 8) (v := ?_) (a' := ?_) #[true, true, false, false, false, false, false, false, false, false, false, false, false, false, false, false, false] rfl rfl (dZ kK.out (by kernel_rfl)) (fun _ _ _ h => h) (Or.inl ⟨by rfl, ?_⟩) ?_ ?_
 rotate_left
 · intro w'
   go_simp
   with_reducible rfl
 rotate_left
 · simp only [Act.put, List.setIfInBounds_toArray, List.set_cons_zero, List.set_cons_succ, dB, dD]
   rfl
 refine pY (i := 2) (N := some 9) (v := ?_) (a' := ?_) #[true, true, true, false, false, false, false, false, false, false, false, false, false, false, false, false, false] rfl rfl (iR kK.out Ju.out (by kernel_rfl)) (fun _ _ _ h => h) (Or.inl ⟨by rfl, ?_⟩) hHeld ?_ ?_
 rotate_left
 · rintro w' ⟨s0, s1, s2, s3, s4, s5⟩
   go_simp
   with_reducible rfl
 rotate_left
 · simp only [Act.put, List.setIfInBounds_toArray, List.set_cons_zero, List.set_cons_succ, dB, dD]
   rfl
 refine pY (i := 3) (N := some 10) (v := ?_) (a' := ?_) #[true, true, true, true, false, false, false, false, false, false, false, false, false, false, false, false, false] rfl rfl (iR kK.out Ju.out (by kernel_rfl)) (fun _ _ _ h => h) (Or.inl ⟨by rfl, ?_⟩) hHeld ?_ ?_
 rotate_left
 · rintro w' ⟨s0, s1, s2, s3, s4, s5⟩
   go_simp
   with_reducible rfl
 rotate_left
 · simp only [Act.put, List.setIfInBounds_toArray, List.set_cons_zero, List.set_cons_succ, dB, dD]
   rfl
 refine pY (i := 9) (N := some 16) (v := ?_) (a' := ?_) #[true, true, true, true, false, false, false, false, false, true, false, false, false, false, false, false, false] rfl rfl (iR kK.out Ju.out (by kernel_rfl)) (fun _ _ _ h => h) (Or.inl ⟨by rfl, ?_⟩) hHeld ?_ ?_
 rotate_left
 · rintro w' ⟨s0, s1, s2, s3, s4, s5⟩
   go_simp
   with_reducible rfl
 rotate_left
 · simp only [Act.put, List.setIfInBounds_toArray, List.set_cons_zero, List.set_cons_succ, dB, dD]
   rfl
 refine Bj (i := 4) (N := some 11) #[true, true, true, true, true, false, false, false, false, true, false, false, false, false, false, false, false] rfl rfl (nX kK.out (by kernel_rfl)) (by decide) (fun K hK => ?_)
 refine wH Tryz.func152 (by kernel_rfl) rfl #[.agg #[.int .i64 bP, .int .i64 bQ, .slice eY bG.length fA], .agg #[.int .i64 mg, .int .i64 l_, .slice qH kM.length rQ]] (by rfl) rfl rfl (by (try simp only [List.map_toArray, List.map_cons, List.map_nil]); first | done | rfl | (simp only [List.length_drop, List.length_take]; rfl)) ?_
 with_reducible refine (jl.calls bP bQ _ _ bG mg l_ _ _ kM t106 t107 t108 t111 t112 _ ?gm ?f_ ?oW ?sU A4.out).mono ?_
 (case gm => exact Kd.Lt 0 qQ.out (by repeat (first | (with_reducible first | exact HK.out | apply bH.oZ | apply dO | apply dU | apply dP | refine bM ?_ lZ.out _ | refine bM ?_ nS.out _ | refine bM ?_ qC.out _) | exact HK.out)) I7)
 (case f_ => exact uJ.out)
 (case oW => exact Kd.Lt 0 abh.out (by repeat (first | (with_reducible first | exact HK.out | apply bH.oZ | apply dO | apply dU | apply dP | refine bM ?_ lZ.out _ | refine bM ?_ nS.out _ | refine bM ?_ qC.out _) | exact HK.out)) I5)
 (case sU => exact abq.out)
 rintro e PL ⟨v109, rfl, ho0, hb⟩
 refine ⟨_, rfl, ?_⟩
 have bK := aj.mk (Kd.qB ho0 (jw (w := w) (g := g) (row := none) (by repeat (first | (with_reducible first | exact HK.out | apply bH.oZ | apply dO | apply dU | apply dP | refine bM ?_ lZ.out _ | refine bM ?_ nS.out _ | refine bM ?_ qC.out _) | exact HK.out))))
 have dW := aj.mk (aJ.below (by repeat (first | (with_reducible first | exact HI0.out | apply aJ.alloc | apply aJ.drewN | apply aJ.drew | apply aJ.iT | refine aJ.far ?_ lG.out _ | refine aJ.far ?_ oO.out _ | refine aJ.far ?_ vW.out _) | exact HI0.out)) hb)
 have eG := aj.mk (bI (g := kZ) (o := .cells #[.int .i64 bP, .int .i64 bQ, .slice eY bG.length fA] 29 (0, 0)) (by (with_reducible repeat (first | refine aC ?_ _ | refine aH ?_ | refine aG ?_ _)); exact fC.out) hb)
 have fP := aj.mk (bI (g := nG) (o := .cells #[.int .i64 mg, .int .i64 l_, .slice qH kM.length rQ] 29 (0, 0)) (by (with_reducible repeat (first | refine aC ?_ _ | refine aH ?_ | refine aG ?_ _)); exact fJ.out) hb)
 have jR := aj.mk (bI (g := gJ) (o := .cells #[.int .i64 0, .int .i64 0, .slice none 0 0] 29 (0, 0)) (by (with_reducible repeat (first | refine aC ?_ _ | refine aH ?_ | refine aG ?_ _)); exact jf.out) hb)
 have jV := aj.mk (bH.trans (by repeat (first | (with_reducible first | exact HK.out | apply bH.oZ | apply dO | apply dU | apply dP | refine bM ?_ lZ.out _ | refine bM ?_ nS.out _ | refine bM ?_ qC.out _) | exact HK.out)) (bH.of_below hb g none) (.inl rfl))
 have kQ := aj.mk (aV (by repeat (first | (with_reducible first | exact HB.out | apply ak | apply ah | apply au | refine aA ?_ (aJ.ge HI0.out) | refine aA ?_ zM.out | refine aA ?_ Dk.out | refine aA ?_ EN.out) | exact HB.out)) hb)
 clear HI0
 clear fC
 clear fJ
 clear jf
 clear HK
 clear HB
 have zI := bK
 have HI0 := dW
 have fC := eG
 have fJ := fP
 have jf := jR
 have HK := jV
 have HB := kQ
 clear bK dW eG fP jR jV kQ
 (try clear hb)
 (try clear hb2)
 (try clear hk)
 (try clear hi)
 (try clear ho0)
 obtain ⟨Yv, Xw, ZM⟩ := Kd.m_ zI.out
 (first | subst ZM | (injection ZM with Jc QH Jb; have QG := Jc.symm; have QF := Jb.symm; clear Jc QH Jb; subst QG; subst QF))
 refine hK.out _ _ ⟨(az fC.out 0).trans rfl, (az fC.out 1).trans rfl, (az fC.out 2).trans rfl, (az fJ.out 0).trans rfl, (az fJ.out 1).trans rfl, (az fJ.out 2).trans rfl⟩ (fun hHeld => ?_)
 clear hK K
 refine wB (a' := ?_) ?_ ?_
 rotate_left
 · show Act.put _ (some 11) _ = _
   simp only [Act.put, List.setIfInBounds_toArray, List.set_cons_zero, List.set_cons_succ, dB, dD]
   rfl
 refine gz (i := 5) (N := some 12) (v := ?_) (a' := ?_) #[true, true, true, true, true, true, false, false, false, true, false, false, false, false, false, false, false] rfl rfl (dZ kK.out (by kernel_rfl)) (fun _ _ _ h => h) (Or.inl ⟨by rfl, ?_⟩) ?_ ?_
 rotate_left
 · intro w'
   go_simp
   with_reducible rfl
 rotate_left
 · simp only [Act.put, List.setIfInBounds_toArray, List.set_cons_zero, List.set_cons_succ, dB, dD]
   rfl
 refine gz (i := 6) (N := some 13) (v := ?_) (a' := ?_) #[true, true, true, true, true, true, true, false, false, true, false, false, false, false, false, false, false] rfl rfl (dZ kK.out (by kernel_rfl)) (fun _ _ _ h => h) (Or.inl ⟨by rfl, ?_⟩) ?_ ?_
 rotate_left
 · intro w'
   go_simp
   with_reducible rfl
 rotate_left
 · simp only [Act.put, List.setIfInBounds_toArray, List.set_cons_zero, List.set_cons_succ, dB, dD]
   rfl
 refine gz (i := 7) (N := some 14) (v := ?_) (a' := ?_) #[true, true, true, true, true, true, true, true, false, true, false, false, false, false, false, false, false] rfl rfl (dZ kK.out (by kernel_rfl)) (fun _ _ _ h => h) (Or.inl ⟨by rfl, ?_⟩) ?_ ?_
 rotate_left
 · intro w'
   go_simp
   with_reducible rfl
 rotate_left
 · simp only [Act.put, List.setIfInBounds_toArray, List.set_cons_zero, List.set_cons_succ, dB, dD]
   rfl
 refine Bj (i := 8) (N := some 15) #[true, true, true, true, true, true, true, true, true, true, false, false, false, false, false, false, false] rfl rfl (nX kK.out (by kernel_rfl)) (by decide) (fun K hK => ?_)
 refine wH Tryz.func151 (by kernel_rfl) rfl #[.pointer (some ⟨g, 0, none⟩), .agg #[.int .i64 t106, .int .i64 t107, .slice Yv t108.length Xw], .bool t111, .int .i64 t112] (by rfl) rfl rfl (by (try simp only [List.map_toArray, List.map_cons, List.map_nil]); first | done | rfl | (simp only [List.length_drop, List.length_take]; rfl)) ?_
 with_reducible refine (dK.calls g nH t106 t107 (fun k_ => some k_ = (.slice Yv t108.length Xw : Value).ownBlock) (.slice Yv t108.length Xw) t108 t111 t112 t113 t114 t115 t118 w0 _ ?gm ?f_ ?oW A5.out).mono ?_
 (case gm => repeat (first | (with_reducible first | exact HI0.out | apply aJ.alloc | apply aJ.drewN | apply aJ.drew | apply aJ.iT | refine aJ.far ?_ lG.out _ | refine aJ.far ?_ oO.out _ | refine aJ.far ?_ vW.out _) | exact HI0.out))
 (case f_ => repeat (first | (with_reducible first | exact HB.out | apply ak | apply ah | apply au | refine aA ?_ (aJ.ge HI0.out) | refine aA ?_ zM.out | refine aA ?_ Dk.out | refine aA ?_ EN.out) | exact HB.out))
 (case oW => exact Kd.qB (Kd.Nb rfl zI.out) HL.out)
 rintro e w15 ⟨ai3, rfl, ho0, hi, hb, hkp⟩
 refine ⟨_, rfl, ?_⟩
 have bK := aj.mk (hi)
 have dW := aj.mk (qM (by (with_reducible repeat (first | refine aC ?_ _ | refine aH ?_ | refine aG ?_ _)); exact fC.out) hkp (fun hs_ => Or.elim hs_ (fun hs_ => (fun e_ => (Kd.DT zI.out fC.out (by decide)) e_) hs_) (fun e_ => Nq.out e_)))
 have eG := aj.mk (qM (by (with_reducible repeat (first | refine aC ?_ _ | refine aH ?_ | refine aG ?_ _)); exact fJ.out) hkp (fun hs_ => Or.elim hs_ (fun hs_ => (fun e_ => (Kd.DT zI.out fJ.out (by decide)) e_) hs_) (fun e_ => Np.out e_)))
 have fP := aj.mk (qM (by (with_reducible repeat (first | refine aC ?_ _ | refine aH ?_ | refine aG ?_ _)); exact jf.out) hkp (fun hs_ => Or.elim hs_ (fun hs_ => (fun e_ => (Kd.DT zI.out jf.out (by decide)) e_) hs_) (fun e_ => Nl.out e_)))
 have jR := aj.mk (Kd.kJ (ok' := fun k_ => True) (Kd.Nc (d := (Kd.int .i64)) (b := w0.heap.size) (b' := w.heap.size) (fun _ _ _ _ h_ => h_) ho0 (fun k_ e_ => Or.elim (ho0.1 k_ e_) (fun hs_ => (fun e_ => Kd.wZ zI.out k_ e_.symm) hs_) (fun Qq => Nat.le_trans (jw (w := w) (g := g) (row := none) (by repeat (first | (with_reducible first | exact HK.out | apply bH.oZ | apply dO | apply dU | apply dP | refine bM ?_ lZ.out _ | refine bM ?_ nS.out _ | refine bM ?_ qC.out _) | exact HK.out))) Qq))) (fun k_ IV => trivial))
 have jV := aj.mk (Kept.VQ (by repeat (first | (with_reducible first | exact HK.out | apply bH.oZ | apply dO | apply dU | apply dP | refine bM ?_ lZ.out _ | refine bM ?_ nS.out _ | refine bM ?_ qC.out _) | exact HK.out)) hkp (fun k_ hs_ => Or.elim hs_ (fun hs_ => (fun e_ => .inr (Kd.wZ zI.out k_ e_.symm)) hs_) (fun e_ => .inl e_)))
 have kQ := aj.mk (hb)
 clear HI0
 clear fC
 clear fJ
 clear jf
 clear HK
 clear HB
 clear zI
 have HI0 := bK
 have fC := dW
 have fJ := eG
 have jf := fP
 have oh := jR
 have HK := jV
 have HB := kQ
 clear bK dW eG fP jR jV kQ
 (try clear hb)
 (try clear hkp)
 (try clear ho0)
 refine hK.out _ _ ⟨(az fC.out 0).trans rfl, (az fC.out 1).trans rfl, (az fC.out 2).trans rfl, (az fJ.out 0).trans rfl, (az fJ.out 1).trans rfl, (az fJ.out 2).trans rfl⟩ (fun hHeld => ?_)
 clear hK K
 refine wB (a' := ?_) ?_ ?_
 rotate_left
 · show Act.put _ (some 15) _ = _
   simp only [Act.put, List.setIfInBounds_toArray, List.set_cons_zero, List.set_cons_succ, dB, dD]
   rfl
 refine Bj (i := 10) (N := some 17) #[true, true, true, true, true, true, true, true, true, true, true, false, false, false, false, false, false] rfl rfl (nX kK.out (by kernel_rfl)) (by decide) (fun K hK => ?_)
 refine wH Tryz.func82 (by kernel_rfl) rfl #[.agg #[.int .i64 bP, .int .i64 bQ, .slice eY bG.length fA]] (by rfl) rfl rfl (by (try simp only [List.map_toArray, List.map_cons, List.map_nil]); first | done | rfl | (simp only [List.length_drop, List.length_take]; rfl)) ?_
 with_reducible refine (jM.calls bP bQ _ _ bG t119 t120 t121 _ ?gm ?f_ A6.out).mono ?_
 (case gm => exact Kd.Lt 0 qQ.out (by repeat (first | (with_reducible first | exact HK.out | apply bH.oZ | apply dO | apply dU | apply dP | refine bM ?_ lZ.out _ | refine bM ?_ nS.out _ | refine bM ?_ qC.out _) | exact HK.out)) I7)
 (case f_ => exact uJ.out)
 rintro e w16 ⟨ai2, rfl, ho0, hb⟩
 refine ⟨_, rfl, ?_⟩
 have bK := aj.mk (Kd.Df (by (with_reducible repeat (first | apply Kd.gI | apply Kd.gG | apply Kd.iL)); exact oh.out) (Kd.wZ ho0) hb)
 have dW := aj.mk (Kd.qB (Kd.Ll ho0 (Kd.Rq (by (with_reducible repeat (first | apply Kd.gI | apply Kd.gG | apply Kd.iL)); exact oh.out))) (jw (w := w) (g := g) (row := none) (by repeat (first | (with_reducible first | exact HK.out | apply bH.oZ | apply dO | apply dU | apply dP | refine bM ?_ lZ.out _ | refine bM ?_ nS.out _ | refine bM ?_ qC.out _) | exact HK.out))))
 have eG := aj.mk (aJ.below (by repeat (first | (with_reducible first | exact HI0.out | apply aJ.alloc | apply aJ.drewN | apply aJ.drew | apply aJ.iT | refine aJ.far ?_ lG.out _ | refine aJ.far ?_ oO.out _ | refine aJ.far ?_ vW.out _) | exact HI0.out)) hb)
 have fP := aj.mk (bI (g := kZ) (o := .cells #[.int .i64 bP, .int .i64 bQ, .slice eY bG.length fA] 29 (0, 0)) (by (with_reducible repeat (first | refine aC ?_ _ | refine aH ?_ | refine aG ?_ _)); exact fC.out) hb)
 have jR := aj.mk (bI (g := nG) (o := .cells #[.int .i64 mg, .int .i64 l_, .slice qH kM.length rQ] 29 (0, 0)) (by (with_reducible repeat (first | refine aC ?_ _ | refine aH ?_ | refine aG ?_ _)); exact fJ.out) hb)
 have jV := aj.mk (bI (g := gJ) (o := .cells #[.int .i64 0, .int .i64 0, .slice none 0 0] 29 (0, 0)) (by (with_reducible repeat (first | refine aC ?_ _ | refine aH ?_ | refine aG ?_ _)); exact jf.out) hb)
 have kQ := aj.mk (bH.trans (by repeat (first | (with_reducible first | exact HK.out | apply bH.oZ | apply dO | apply dU | apply dP | refine bM ?_ lZ.out _ | refine bM ?_ nS.out _ | refine bM ?_ qC.out _) | exact HK.out)) (bH.of_below hb g none) (.inl rfl))
 have wC := aj.mk (aV (by repeat (first | (with_reducible first | exact HB.out | apply ak | apply ah | apply au | refine aA ?_ (aJ.ge HI0.out) | refine aA ?_ zM.out | refine aA ?_ Dk.out | refine aA ?_ EN.out) | exact HB.out)) hb)
 clear oh
 clear HI0
 clear fC
 clear fJ
 clear jf
 clear HK
 clear HB
 have oh := bK
 have sD := dW
 have HI0 := eG
 have fC := fP
 have fJ := jR
 have jf := jV
 have HK := kQ
 have HB := wC
 clear bK dW eG fP jR jV kQ wC
 (try clear hb)
 (try clear hb2)
 (try clear hk)
 (try clear hi)
 (try clear ho0)
 obtain ⟨Yu, Xv, ZL⟩ := Kd.m_ oh.out
 (first | subst ZL | (injection ZL with Jc QH Jb; have QG := Jc.symm; have QF := Jb.symm; clear Jc QH Jb; subst QG; subst QF))
 obtain ⟨Yt, U9, QO⟩ := Kd.m_ sD.out
 (first | subst QO | (injection QO with Jc QH Jb; have QG := Jc.symm; have QF := Jb.symm; clear Jc QH Jb; subst QG; subst QF))
 refine hK.out _ _ ⟨(az fC.out 0).trans rfl, (az fC.out 1).trans rfl, (az fC.out 2).trans rfl, (az fJ.out 0).trans rfl, (az fJ.out 1).trans rfl, (az fJ.out 2).trans rfl⟩ (fun hHeld => ?_)
 clear hK K
 refine wB (a' := ?_) ?_ ?_
 rotate_left
 · show Act.put _ (some 17) _ = _
   simp only [Act.put, List.setIfInBounds_toArray, List.set_cons_zero, List.set_cons_succ, dB, dD]
   rfl
 refine Bj (i := 11) (N := some 18) #[true, true, true, true, true, true, true, true, true, true, true, true, false, false, false, false, false] rfl rfl (nX kK.out (by kernel_rfl)) (by decide) (fun K hK => ?_)
 refine wH Tryz.func152 (by kernel_rfl) rfl #[.agg #[.int .i64 t113, .int .i64 t114, .slice Yu t115.length Xv], .agg #[.int .i64 t119, .int .i64 t120, .slice Yt t121.length U9]] (by rfl) rfl rfl (by (try simp only [List.map_toArray, List.map_cons, List.map_nil]); first | done | rfl | (simp only [List.length_drop, List.length_take]; rfl)) ?_
 with_reducible refine (jl.calls t113 t114 _ _ t115 t119 t120 _ _ t121 t124 t125 t126 t129 t130 _ ?gm ?f_ ?oW ?sU A7.out).mono ?_
 (case gm => repeat (first | exact (Kd.pR oh.out).2.2 | (with_reducible refine Kd.gZ ?_ _) | (with_reducible refine Kd.gY ?_ _) | (with_reducible refine Kd.jh ?_)))
 (case f_ => exact (Kd.pR oh.out).2.1)
 (case oW => repeat (first | exact (Kd.pR sD.out).2.2 | (with_reducible refine Kd.gZ ?_ _) | (with_reducible refine Kd.gY ?_ _) | (with_reducible refine Kd.jh ?_)))
 (case sU => exact (Kd.pR sD.out).2.1)
 rintro e w19 ⟨v127, rfl, ho0, hb⟩
 refine ⟨_, rfl, ?_⟩
 have bK := aj.mk (Kd.Df (by (with_reducible repeat (first | apply Kd.gI | apply Kd.gG | apply Kd.iL)); exact oh.out) (Kd.wZ ho0) hb)
 have dW := aj.mk (Kd.Df (by (with_reducible repeat (first | apply Kd.gI | apply Kd.gG | apply Kd.iL)); exact sD.out) (Kd.wZ ho0) hb)
 have eG := aj.mk (Kd.qB (Kd.Ll (Kd.Ll ho0 (Kd.Rq (by (with_reducible repeat (first | apply Kd.gI | apply Kd.gG | apply Kd.iL)); exact oh.out))) (Kd.Rq (by (with_reducible repeat (first | apply Kd.gI | apply Kd.gG | apply Kd.iL)); exact sD.out))) (jw (w := w) (g := g) (row := none) (by repeat (first | (with_reducible first | exact HK.out | apply bH.oZ | apply dO | apply dU | apply dP | refine bM ?_ lZ.out _ | refine bM ?_ nS.out _ | refine bM ?_ qC.out _) | exact HK.out))))
 have fP := aj.mk (aJ.below (by repeat (first | (with_reducible first | exact HI0.out | apply aJ.alloc | apply aJ.drewN | apply aJ.drew | apply aJ.iT | refine aJ.far ?_ lG.out _ | refine aJ.far ?_ oO.out _ | refine aJ.far ?_ vW.out _) | exact HI0.out)) hb)
 have jR := aj.mk (bI (g := kZ) (o := .cells #[.int .i64 bP, .int .i64 bQ, .slice eY bG.length fA] 29 (0, 0)) (by (with_reducible repeat (first | refine aC ?_ _ | refine aH ?_ | refine aG ?_ _)); exact fC.out) hb)
 have jV := aj.mk (bI (g := nG) (o := .cells #[.int .i64 mg, .int .i64 l_, .slice qH kM.length rQ] 29 (0, 0)) (by (with_reducible repeat (first | refine aC ?_ _ | refine aH ?_ | refine aG ?_ _)); exact fJ.out) hb)
 have kQ := aj.mk (bI (g := gJ) (o := .cells #[.int .i64 0, .int .i64 0, .slice none 0 0] 29 (0, 0)) (by (with_reducible repeat (first | refine aC ?_ _ | refine aH ?_ | refine aG ?_ _)); exact jf.out) hb)
 have wC := aj.mk (bH.trans (by repeat (first | (with_reducible first | exact HK.out | apply bH.oZ | apply dO | apply dU | apply dP | refine bM ?_ lZ.out _ | refine bM ?_ nS.out _ | refine bM ?_ qC.out _) | exact HK.out)) (bH.of_below hb g none) (.inl rfl))
 have zi := aj.mk (aV (by repeat (first | (with_reducible first | exact HB.out | apply ak | apply ah | apply au | refine aA ?_ (aJ.ge HI0.out) | refine aA ?_ zM.out | refine aA ?_ Dk.out | refine aA ?_ EN.out) | exact HB.out)) hb)
 clear oh
 clear sD
 clear HI0
 clear fC
 clear fJ
 clear jf
 clear HK
 clear HB
 have oh := bK
 have sD := dW
 have zH := eG
 have HI0 := fP
 have fC := jR
 have fJ := jV
 have jf := kQ
 have HK := wC
 have HB := zi
 clear bK dW eG fP jR jV kQ wC zi
 (try clear hb)
 (try clear hb2)
 (try clear hk)
 (try clear hi)
 (try clear ho0)
 obtain ⟨Vz, OZ, QN⟩ := Kd.m_ zH.out
 (first | subst QN | (injection QN with Jc QH Jb; have QG := Jc.symm; have QF := Jb.symm; clear Jc QH Jb; subst QG; subst QF))
 refine hK.out _ _ ⟨(az fC.out 0).trans rfl, (az fC.out 1).trans rfl, (az fC.out 2).trans rfl, (az fJ.out 0).trans rfl, (az fJ.out 1).trans rfl, (az fJ.out 2).trans rfl⟩ (fun hHeld => ?_)
 clear hK K
 refine wB (a' := ?_) ?_ ?_
 rotate_left
 · show Act.put _ (some 18) _ = _
   simp only [Act.put, List.setIfInBounds_toArray, List.set_cons_zero, List.set_cons_succ, dB, dD]
   rfl
 refine gz (i := 12) (N := some 19) (v := ?_) (a' := ?_) #[true, true, true, true, true, true, true, true, true, true, true, true, true, false, false, false, false] rfl rfl (dZ kK.out (by kernel_rfl)) (fun _ _ _ h => h) (Or.inl ⟨by rfl, ?_⟩) ?_ ?_
 rotate_left
 · intro w'
   go_simp
   with_reducible rfl
 rotate_left
 · simp only [Act.put, List.setIfInBounds_toArray, List.set_cons_zero, List.set_cons_succ, dB, dD]
   rfl
 refine gz (i := 13) (N := some 20) (v := ?_) (a' := ?_) #[true, true, true, true, true, true, true, true, true, true, true, true, true, true, false, false, false] rfl rfl (dZ kK.out (by kernel_rfl)) (fun _ _ _ h => h) (Or.inl ⟨by rfl, ?_⟩) ?_ ?_
 rotate_left
 · intro w'
   go_simp
   with_reducible rfl
 rotate_left
 · simp only [Act.put, List.setIfInBounds_toArray, List.set_cons_zero, List.set_cons_succ, dB, dD]
   rfl
 refine gz (i := 14) (N := some 21) (v := ?_) (a' := ?_) #[true, true, true, true, true, true, true, true, true, true, true, true, true, true, true, false, false] rfl rfl (dZ kK.out (by kernel_rfl)) (fun _ _ _ h => h) (Or.inl ⟨by rfl, ?_⟩) ?_ ?_
 rotate_left
 · intro w'
   go_simp
   with_reducible rfl
 rotate_left
 · simp only [Act.put, List.setIfInBounds_toArray, List.set_cons_zero, List.set_cons_succ, dB, dD]
   rfl
 refine Bj (i := 15) (N := some 22) #[true, true, true, true, true, true, true, true, true, true, true, true, true, true, true, true, false] rfl rfl (nX kK.out (by kernel_rfl)) (by decide) (fun K hK => ?_)
 refine wH Tryz.func151 (by kernel_rfl) rfl #[.pointer (some ⟨g, 0, none⟩), .agg #[.int .i64 t124, .int .i64 t125, .slice Vz t126.length OZ], .bool t129, .int .i64 t130] (by rfl) rfl rfl (by (try simp only [List.map_toArray, List.map_cons, List.map_nil]); first | done | rfl | (simp only [List.length_drop, List.length_take]; rfl)) ?_
 with_reducible refine (dK.calls g t118 t124 t125 (fun k_ => some k_ = (.slice Vz t126.length OZ : Value).ownBlock) (.slice Vz t126.length OZ) t126 t129 t130 t131 t132 t133 t136 w0 _ ?gm ?f_ ?oW A8.out).mono ?_
 (case gm => repeat (first | (with_reducible first | exact HI0.out | apply aJ.alloc | apply aJ.drewN | apply aJ.drew | apply aJ.iT | refine aJ.far ?_ lG.out _ | refine aJ.far ?_ oO.out _ | refine aJ.far ?_ vW.out _) | exact HI0.out))
 (case f_ => repeat (first | (with_reducible first | exact HB.out | apply ak | apply ah | apply au | refine aA ?_ (aJ.ge HI0.out) | refine aA ?_ zM.out | refine aA ?_ Dk.out | refine aA ?_ EN.out) | exact HB.out))
 (case oW => exact Kd.qB (Kd.Nb rfl zH.out) HL.out)
 rintro e VD ⟨YT, rfl, ho0, hi, hb, hkp⟩
 refine ⟨_, rfl, ?_⟩
 have bK := aj.mk (hi)
 have dW := aj.mk (qM (by (with_reducible repeat (first | refine aC ?_ _ | refine aH ?_ | refine aG ?_ _)); exact fC.out) hkp (fun hs_ => Or.elim hs_ (fun hs_ => (fun e_ => (Kd.DT zH.out fC.out (by decide)) e_) hs_) (fun e_ => Nq.out e_)))
 have eG := aj.mk (qM (by (with_reducible repeat (first | refine aC ?_ _ | refine aH ?_ | refine aG ?_ _)); exact fJ.out) hkp (fun hs_ => Or.elim hs_ (fun hs_ => (fun e_ => (Kd.DT zH.out fJ.out (by decide)) e_) hs_) (fun e_ => Np.out e_)))
 have fP := aj.mk (qM (by (with_reducible repeat (first | refine aC ?_ _ | refine aH ?_ | refine aG ?_ _)); exact jf.out) hkp (fun hs_ => Or.elim hs_ (fun hs_ => (fun e_ => (Kd.DT zH.out jf.out (by decide)) e_) hs_) (fun e_ => Nl.out e_)))
 have jR := aj.mk (Kd.kJ (ok' := fun k_ => some k_ ≠ (.slice Yt t121.length U9 : Value).ownBlock ∧ some k_ ≠ (YT : Value).ownBlock) (Kd.Nh ((aJ.apart HI0.out oh.out (by decide))) hkp (fun k_ IV hs_ => Or.elim hs_ (fun hs_ => (IV.1.2) hs_) (fun e_ => (IV.2) e_))) (fun k_ IV => ⟨IV.1.1.1.2, fun e_ => Or.elim (ho0.1 k_ e_.symm) (fun hs_ => IV.2.1 (.inl hs_)) (fun Qq => Nat.not_le.2 IV.2.2 Qq)⟩))
 have jV := aj.mk (Kd.kJ (ok' := fun k_ => some k_ ≠ (.slice Yu t115.length Xv : Value).ownBlock ∧ some k_ ≠ (YT : Value).ownBlock) (Kd.Nh ((aJ.apart HI0.out sD.out (by decide))) hkp (fun k_ IV hs_ => Or.elim hs_ (fun hs_ => (IV.1.2) hs_) (fun e_ => (IV.2) e_))) (fun k_ IV => ⟨IV.1.1.1.2, fun e_ => Or.elim (ho0.1 k_ e_.symm) (fun hs_ => IV.2.1 (.inl hs_)) (fun Qq => Nat.not_le.2 IV.2.2 Qq)⟩))
 have kQ := aj.mk (Kd.kJ (ok' := fun k_ => some k_ ≠ (.slice Yu t115.length Xv : Value).ownBlock ∧ some k_ ≠ (.slice Yt t121.length U9 : Value).ownBlock) (Kd.Nc (d := (Kd.int .i64)) (b := w0.heap.size) (b' := w.heap.size) (fun _ _ _ _ h_ => h_) ho0 (fun k_ e_ => Or.elim (ho0.1 k_ e_) (fun hs_ => (fun e_ => Kd.wZ zH.out k_ e_.symm) hs_) (fun Qq => Nat.le_trans (jw (w := w) (g := g) (row := none) (by repeat (first | (with_reducible first | exact HK.out | apply bH.oZ | apply dO | apply dU | apply dP | refine bM ?_ lZ.out _ | refine bM ?_ nS.out _ | refine bM ?_ qC.out _) | exact HK.out))) Qq))) (fun k_ IV => ⟨Or.elim IV (fun hs_ => fun e_ => ((((aJ.apart HI0.out oh.out (by decide))).1 k_ e_.symm).1.2) hs_) (fun Qq => (Kd.fresh' (Kd.Rq (by (with_reducible repeat (first | apply Kd.gI | apply Kd.gG | apply Kd.iL)); exact oh.out)) k_ Qq)), Or.elim IV (fun hs_ => fun e_ => ((((aJ.apart HI0.out sD.out (by decide))).1 k_ e_.symm).1.2) hs_) (fun Qq => (Kd.fresh' (Kd.Rq (by (with_reducible repeat (first | apply Kd.gI | apply Kd.gG | apply Kd.iL)); exact sD.out)) k_ Qq))⟩))
 have wC := aj.mk (Kept.VQ (by repeat (first | (with_reducible first | exact HK.out | apply bH.oZ | apply dO | apply dU | apply dP | refine bM ?_ lZ.out _ | refine bM ?_ nS.out _ | refine bM ?_ qC.out _) | exact HK.out)) hkp (fun k_ hs_ => Or.elim hs_ (fun hs_ => (fun e_ => .inr (Kd.wZ zH.out k_ e_.symm)) hs_) (fun e_ => .inl e_)))
 have zi := aj.mk (hb)
 clear HI0
 clear fC
 clear fJ
 clear jf
 clear oh
 clear sD
 clear HK
 clear HB
 clear zH
 have HI0 := bK
 have fC := dW
 have fJ := eG
 have jf := fP
 have oh := jR
 have sD := jV
 have Wp := kQ
 have HK := wC
 have HB := zi
 clear bK dW eG fP jR jV kQ wC zi
 (try clear hb)
 (try clear hkp)
 (try clear ho0)
 obtain ⟨abI, ZQ, ZK⟩ := Kd.m_ Wp.out
 (first | subst ZK | (injection ZK with Jc QH Jb; have QG := Jc.symm; have QF := Jb.symm; clear Jc QH Jb; subst QG; subst QF))
 refine hK.out _ _ ⟨(az fC.out 0).trans rfl, (az fC.out 1).trans rfl, (az fC.out 2).trans rfl, (az fJ.out 0).trans rfl, (az fJ.out 1).trans rfl, (az fJ.out 2).trans rfl⟩ (fun hHeld => ?_)
 clear hK K
 refine wB (a' := ?_) ?_ ?_
 rotate_left
 · show Act.put _ (some 22) _ = _
   simp only [Act.put, List.setIfInBounds_toArray, List.set_cons_zero, List.set_cons_succ, dB, dD]
   rfl
 refine Bj (i := 16) (N := none) #[true, true, true, true, true, true, true, true, true, true, true, true, true, true, true, true, true] rfl rfl (nX kK.out (by kernel_rfl)) (by decide) (fun K hK => ?_)
 have ajr : VD.cell? ⟨gJ, 0, none⟩ = some (.int .i64 0) := (az jf.out 0).trans rfl
 have ahf := ay jf.out 0
 have acd := iQ.out
 have ab_ := iP.out
 have acj := yT.out
 have aci := yS.out
 have ajq : VD.cell? ⟨gJ, 1, none⟩ = some (.int .i64 0) := (az jf.out 1).trans rfl
 have ahe := ay jf.out 1
 have ab9 := iQ.out
 have ab8 := iP.out
 have ach := yT.out
 have acg := yS.out
 have ajp : VD.cell? ⟨gJ, 2, none⟩ = some (.slice none 0 0) := (az jf.out 2).trans rfl
 have ahd := ay jf.out 2
 have ab7 := iQ.out
 have ab6 := iP.out
 have acf := yT.out
 have ace := yS.out
 refine VK (w1 := ?_) (by rfl) rfl ?_ ?_
 rotate_left
 · go_simp
   rfl
 refine hK.out _ _ ⟨((cell_far (p := ⟨gJ, _, none⟩) iQ.out _).trans (((cell_far (p := ⟨gJ, _, none⟩) iQ.out _).trans (((cell_far (p := ⟨gJ, _, none⟩) iQ.out _).trans (hHeld.1)))))), ((cell_far (p := ⟨gJ, _, none⟩) iQ.out _).trans (((cell_far (p := ⟨gJ, _, none⟩) iQ.out _).trans (((cell_far (p := ⟨gJ, _, none⟩) iQ.out _).trans (hHeld.2.1)))))), ((cell_far (p := ⟨gJ, _, none⟩) iQ.out _).trans (((cell_far (p := ⟨gJ, _, none⟩) iQ.out _).trans (((cell_far (p := ⟨gJ, _, none⟩) iQ.out _).trans (hHeld.2.2.1)))))), ((cell_far (p := ⟨gJ, _, none⟩) iP.out _).trans (((cell_far (p := ⟨gJ, _, none⟩) iP.out _).trans (((cell_far (p := ⟨gJ, _, none⟩) iP.out _).trans (hHeld.2.2.2.1)))))), ((cell_far (p := ⟨gJ, _, none⟩) iP.out _).trans (((cell_far (p := ⟨gJ, _, none⟩) iP.out _).trans (((cell_far (p := ⟨gJ, _, none⟩) iP.out _).trans (hHeld.2.2.2.2.1)))))), ((cell_far (p := ⟨gJ, _, none⟩) iP.out _).trans (((cell_far (p := ⟨gJ, _, none⟩) iP.out _).trans (((cell_far (p := ⟨gJ, _, none⟩) iP.out _).trans (hHeld.2.2.2.2.2))))))⟩ (fun hHeld => ?_)
 clear hK K
 refine MK (AA kK.out (by kernel_rfl)) ?_
 try go_wp2
 refine bodyPost_ret (results_cell_row rfl _ _ gJ 29 #[.int .i64 t131, .int .i64 t132, .slice abI t133.length ZQ] (0, 0) _ rfl (by (with_reducible repeat (first | refine aC ?_ _ | refine aH ?_ | refine aG ?_ _)); refine fH (cs := #[.int .i64 t131, .int .i64 t132, .slice none 0 0]) ?_ 2 _ rfl; (with_reducible repeat (first | refine aC ?_ _ | refine aH ?_ | refine aG ?_ _)); refine fH (cs := #[.int .i64 t131, .int .i64 0, .slice none 0 0]) ?_ 1 _ rfl; (with_reducible repeat (first | refine aC ?_ _ | refine aH ?_ | refine aG ?_ _)); refine fH (cs := #[.int .i64 0, .int .i64 0, .slice none 0 0]) ?_ 0 _ rfl; (with_reducible repeat (first | refine aC ?_ _ | refine aH ?_ | refine aG ?_ _)); exact jf.out) Tryz.underlying29 rfl (by kernel_rfl)) rfl ?_
 exact ⟨_, by first | rfl | (simp [aU, aT] <;> rfl) | (simp [*, aU, aT] <;> rfl), by (with_reducible repeat (first | apply Kd.gI | apply Kd.gG | apply Kd.iL)); exact Kd.kJ (Kd.lT (p := ⟨gJ, 2, none⟩) (Kd.lT (p := ⟨gJ, 1, none⟩) (Kd.lT (p := ⟨gJ, 0, none⟩) (Kd.rW Wp.out jf.out (by decide)) (fun _ hk => hk.2) (.int .i64 t131)) (fun _ hk => hk.2) (.int .i64 t132)) (fun _ hk => hk.2) (.slice abI t133.length ZQ)) (fun _ hk => trivial), by repeat (first | (with_reducible first | exact HI0.out | apply aJ.alloc | apply aJ.drewN | apply aJ.drew | apply aJ.iT | refine aJ.far ?_ lG.out _ | refine aJ.far ?_ oO.out _ | refine aJ.far ?_ vW.out _) | exact HI0.out), by repeat (first | (with_reducible first | exact HB.out | apply ak | apply ah | apply au | refine aA ?_ (aJ.ge HI0.out) | refine aA ?_ zM.out | refine aA ?_ Dk.out | refine aA ?_ EN.out) | exact HB.out), by repeat (first | (with_reducible first | exact HK.out | apply bH.oZ | apply dO | apply dU | apply dP | refine bM ?_ lZ.out _ | refine bM ?_ nS.out _ | refine bM ?_ qC.out _) | exact HK.out)⟩
end Go.Proofs.YtcfobekkchhbbaaGreat.PR

