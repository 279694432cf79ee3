import Derived.Test.YtcfobekkchhbbaaGreatV6
import Derived.Laws.MakeOwn
import Derived.Laws.IdiomCopy
import Derived.Test.YtcfobekkchhbbaaGreatProg
import Derived.Test.YtcfobekkchhbbaaGreatV1
/- Joined and thinned by a program of this session's own (wip/pack2.py) out of its texts (wip/ of its repo); parts were laid by its own program (wip/print-patch.py over the kit's print) out of the translation; Lean checks all. -/
set_option maxRecDepth 100000
set_option maxHeartbeats 8000000
namespace Go.Proofs.YtcfobekkchhbbaaGreat.KK
open Go.RowKit Go.Proofs.af.aU Go.Proofs.af.a_ Go.Proofs.af.bf
set_option linter.unusedVariables false
set_option linter.unusedSimpArgs false
def mF (r c : Nat) (l : List Int) (q : Int) : List Int := upto c (fun i k => (kE (l.getD (i * c + k) 0) q).1) r
def scaleB (r c : Nat) (l : List Int) (q : Int) : Bool := wI c (fun i k => (kE (l.getD (i * c + k) 0) q).2) r
theorem Ut : Enters 209 := enters Tryz.func209 rfl rfl
theorem Uu : Enters 186 := enters Tryz.func186 rfl rfl
theorem JF (r c : Nat) (A : Option Addr) (cp : Nat) (g : Nat) (q : Int) (l : List Int) (w : World) (hr : r ≤ 8) (hc : c ≤ 8) (hl : l.length = r * c) (hA : Rd w A l)
 (R : Row w g 29 #[I r, I c, (.slice A l.length cp)]) (R' : Row w (g + 1) 22 #[I q]) :
 zG w 209 #[.pointer (some ⟨g, 0, none⟩), .pointer (some ⟨g + 1, 0, none⟩)] r c (fun i k => (kE (l.getD (i * c + k) 0) q).1) (fun i k => (kE (l.getD (i * c + k) 0) q).2) := by
 intro i k w' hi hk hb; have R1 := Lib.hid (R.below hb R.lt); have R2 := Lib.hid (R'.below hb R'.lt); have hle : r * c ≤ 8 * 8 := Nat.mul_le_mul hr hc; have hlt : i * c + k < r * c := kX hi hk; have H1 := Lib.hid (fun w' h => mV r c A cp l i k w' h (by rw [hl]; exact hlt) (by rw [hl]; omega)); have A1 := Lib.hid (hA.below hb)
 obtain ⟨x, hx⟩ : ∃ x, l.getD (i * c + k) 0 = x := ⟨_, rfl⟩
 rw [hx] at H1
 show Calls Tryz.prog 209 #[I i, I k, .pointer (some ⟨g, 0, none⟩), .pointer (some ⟨g + 1, 0, none⟩)] w' fun e w'' => e = .returned (.tuple #[I (kE (l.getD (i * c + k) 0) q).1, .bool (kE (l.getD (i * c + k) 0) q).2]) ∧ Below w'.heap.size w' w''
 rw [hx]; have H3 := Lib.hid (fun w => jW x q w)
 obtain ⟨z, hz⟩ : ∃ z, kE x q = z := ⟨_, rfl⟩
 rw [hz] at H3 ⊢; obtain ⟨z1, z2⟩ := z; clear hb R R' hA hr hc hle hl hx hz hlt; have K : Hid (∀ w2, Below w'.heap.size w' w2 → (∀ o, w2.cell? ⟨g, o, none⟩ = #[I r, I c, (.slice A l.length cp)][o]?) ∧ (∀ o, w2.cell? ⟨g + 1, o, none⟩ = #[I q][o]?)) := Lib.hid (fun w2 hb => ⟨(R1.out.below hb R1.out.lt).cell, (R2.out.below hb R2.out.lt).cell⟩); have B0 := Lib.hid (Below.refl w'.heap.size w'); have B1 := Lib.hid B0.out.drew; have x2 := R1.out.cell; have x3 := R2.out.cell; clear R1 R2
 go_enter Tryz.func209, Tryz.ntmps209
 go_wp2_with fail
 go_region_held3 (fun w2 => (∀ o, w2.cell? ⟨g, o, none⟩ = #[I r, I c, (.slice A l.length cp)][o]?) ∧ (∀ o, w2.cell? ⟨g + 1, o, none⟩ = #[I q][o]?))
  (first | with_reducible exact K.out _ B3.out | with_reducible exact K.out _ B2.out | with_reducible exact K.out _ B1.out | with_reducible exact K.out _ B0.out)
  (first
    | (go_at_call 92
       refine (H3.out _).mono ?_
       rintro e w4 ⟨rfl, hb⟩; have B3 := Lib.hid (B2.out.trans (hb.mono B2.out.size))
       clear hb)
    | (go_at_call 134
       refine (H1.out _ (A1.out.below B1.out)).mono ?_
       rintro e w2 ⟨rfl, hb⟩; have B2 := Lib.hid (B1.out.trans (hb.mono B1.out.size))
       clear hb))
 all_goals
  go_wp2
  go_ret2
  exact ⟨rfl, B3.out⟩
theorem QN (r c : Nat) (A : Option Addr) (cp : Nat) (l : List Int) (q : Int) (w : World) (hr : r ≤ 8) (hc : c ≤ 8) (hl : l.length = r * c) (hA : Rd w A l) (hcp : l.length ≤ cp) :
 Calls Tryz.prog 203 #[.agg #[I r, I c, (.slice A l.length cp)], I q] w fun e w' => ∃ v, e = .returned (.tuple #[.agg #[I r, I c, v], .bool (scaleB r c l q)]) ∧ Own w' w.heap.size v (mF r c l q) ∧ Below w.heap.size w w' := by
 have N : Hid (bD w [(29, #[I r, I c, (.slice A l.length cp)]), (22, #[I q]), (29, #[I 0, I 0, .slice none 0 0])] (((w.alloc (.cells #[I r, I c, (.slice A l.length cp)] 29)).alloc (.cells #[I q] 22)).alloc (.cells #[I 0, I 0, .slice none 0 0] 29))) := Lib.hid ((((bD.none w).push (by simp) _ _).push (by simp) _ _).push (by simp) _ _); have O1 := Lib.hid (fun w' h => qK r c A l cp w' h hcp); have HA := Lib.hid hA
 obtain ⟨L, hL⟩ : ∃ L, mF r c l q = L := ⟨_, rfl⟩
 obtain ⟨b, hb⟩ : ∃ b, scaleB r c l q = b := ⟨_, rfl⟩
 have HM := Lib.hid (fun w' (h : bD w [(29, #[I r, I c, (.slice A l.length cp)]), (22, #[I q]), (29, #[I 0, I 0, .slice none 0 0])] w') => uz 209 #[.pointer (some ⟨w.heap.size, 0, none⟩), .pointer (some ⟨w.heap.size + 1, 0, none⟩)] r c _ _ w' L b hL hb hr hc Ut (JF r c A cp w.heap.size q l w' hr hc hl (hA.below h.be) h.r0 h.r1)); rw [hL, hb]; clear hr hc hl hA hcp hL hb; have hmf := hmf
 go_enter Tryz.func203, Tryz.ntmps203
 go_wp2_with fail
 refine (O1.out _ (HA.out.below N.out.be)).mono ?_
 rintro e w4 ⟨rfl, hb⟩; have N4 := Lib.hid (N.out.below hb); clear hb N
 go_wp2_with fail
 refine (HM.out _ N4.out).mono ?_
 rintro e w5 ⟨A2, c2, rfl, ho, hb⟩; have O := Lib.hid ho; have N5 := Lib.hid (N4.out.below hb); have L4 := N4.out.r2.lt; clear ho hb; have x3 := N5.out.r2.cell; have g3 := N5.out.r2.free; have t3 := N5.out.r2.lt; go_wp2
 refine bodyPost_ret (OI rfl rfl (N5.out.r2.dK _ _ _)) rfl ⟨_, rfl, ?_, Below.dK N5.out.be (by omega) _ _ _⟩
 exact (O.out.dK (by omega) _ _ _).lower (by omega)
def Jk (c1 c2 : Nat) (l m : List Int) (i k : Nat) : Nat → Int × Bool
 | 0 => (0, false)
 | j + 1 =>
   let p := kE (l.getD (i * c1 + j) 0) (m.getD (j * c2 + k) 0)
   let t := jL (Jk c1 c2 l m i k j).1 p.1
   (t.1, (Jk c1 c2 l m i k j).2 || p.2 || t.2)
def mulL (r c1 c2 : Nat) (l m : List Int) : List Int := upto c2 (fun i k => (Jk c1 c2 l m i k c1).1) r
def uy (r c1 c2 : Nat) (l m : List Int) : Bool := wI c2 (fun i k => (Jk c1 c2 l m i k c1).2) r
theorem Qs (r c1 c2 : Nat) (A A' : Option Addr) (cp cp' g : Nat) (l m : List Int) (w : World) (hr : r ≤ 8) (hc1 : c1 ≤ 8) (hc2 : c2 ≤ 8) (hl : l.length = r * c1) (hm : m.length = c1 * c2) (hA : Rd w A l) (hA' : Rd w A' m)
 (R : Row w g 29 #[I r, I c1, (.slice A l.length cp)]) (R' : Row w (g + 1) 29 #[I c1, I c2, (.slice A' m.length cp')]) :
 zG w 186 #[.pointer (some ⟨g, 0, none⟩), .pointer (some ⟨g + 1, 0, none⟩)] r c2 (fun i k => (Jk c1 c2 l m i k c1).1) (fun i k => (Jk c1 c2 l m i k c1).2) := by
 intro i k w' hi hk hb; have R1 := Lib.hid (R.below hb R.lt); have R2 := Lib.hid (R'.below hb R'.lt); have hle : r * c1 ≤ 8 * 8 := Nat.mul_le_mul hr hc1; have hle2 : c1 * c2 ≤ 8 * 8 := Nat.mul_le_mul hc1 hc2; have H1 := Lib.hid (fun w' j h (hj : j < c1) => mV r c1 A cp l i j w' h (by rw [hl]; exact kX hi hj) (by rw [hl]; omega)); have H2 := Lib.hid (fun w' j h (hj : j < c1) => mV c1 c2 A' cp' m j k w' h (by rw [hm]; exact kX hj hk) (by rw [hm]; omega)); have A1 := Lib.hid (hA.below hb); have A2 := Lib.hid (hA'.below hb); have HC := Lib.hid hc1
 show Calls Tryz.prog 186 #[I i, I k, .pointer (some ⟨g, 0, none⟩), .pointer (some ⟨g + 1, 0, none⟩)] w' fun e w'' => e = .returned (.tuple #[I (Jk c1 c2 l m i k c1).1, .bool (Jk c1 c2 l m i k c1).2]) ∧ Below w'.heap.size w' w''
 obtain ⟨f, hf⟩ : ∃ f, Jk c1 c2 l m i k = f := ⟨_, rfl⟩
 have hs : ∀ j, f (j + 1) = ((jL (f j).1 (kE (l.getD (i * c1 + j) 0) (m.getD (j * c2 + k) 0)).1).1, (f j).2 || (kE (l.getD (i * c1 + j) 0) (m.getD (j * c2 + k) 0)).2 || (jL (f j).1 (kE (l.getD (i * c1 + j) 0) (m.getD (j * c2 + k) 0)).1).2) := fun j => by subst hf; rfl
 have h0 : f 0 = (0, false) := by subst hf; rfl
 rw [hf]; have HF := Lib.hid hs; have H0 := Lib.hid h0; clear hb R R' hA hA' hr hc1 hc2 hle hle2 hl hm hf hs h0; have K : Hid (∀ w2, Below w'.heap.size w' w2 → (∀ o, w2.cell? ⟨g, o, none⟩ = #[I r, I c1, (.slice A l.length cp)][o]?) ∧ (∀ o, w2.cell? ⟨g + 1, o, none⟩ = #[I c1, I c2, (.slice A' m.length cp')][o]?)) := Lib.hid (fun w2 hb => ⟨(R1.out.below hb R1.out.lt).cell, (R2.out.below hb R2.out.lt).cell⟩); have B0 := Lib.hid (Below.refl w'.heap.size w'); have x2 := R1.out.cell; have x3 := R2.out.cell; clear R1 R2
 go_enter Tryz.func186, Tryz.ntmps186
 go_wp2_with fail
 go_loopw [8, 9, 17] (fun su od jj wr => ∃ (j : Nat) (sv : Int) (ov : Bool), j ≤ c1 ∧ jj = .int .i64 j ∧ su = .int .i64 sv ∧ od = .bool ov ∧ Hid (f j = (sv, ov)) ∧ Hid (Below w'.heap.size w' wr)) (fun _ _ jj _ => c1 - (intOf jj).toNat)
 case atStart => exact ⟨0, 0, false, by omega, rfl, rfl, rfl, Lib.hid H0.out, B0⟩
 case round =>
  clear B0; obtain ⟨j, sv, ov, hj, rfl, rfl, rfl, F, B0⟩ := hrel; clear x2 x3; have x2 := (K.out _ B0.out).1; have x3 := (K.out _ B0.out).2
  by_cases hjc : j = c1
  · subst hjc
    go_wp2
    go_ret2
    exact ⟨by rw [F.out]; rfl, B0.out⟩
  have hlt : (j : Int) < c1 := by omega
  have HJ := Lib.hid (show j < c1 by omega); have STEP : Hid (j + 1 ≤ c1 ∧ c1 - (j + 1) < c1 - j) := Lib.hid (by omega)
  have hw64 : IntKind.i64.wrap ((j : Int) + 1) = (j : Int) + 1 := by have := HC.out; simp [IntKind.wrap, IntKind.bits, IntKind.signed]; omega
  obtain ⟨x, hx⟩ : ∃ x, l.getD (i * c1 + j) 0 = x := ⟨_, rfl⟩
  obtain ⟨y, hy⟩ : ∃ y, m.getD (j * c2 + k) 0 = y := ⟨_, rfl⟩
  obtain ⟨p, hp⟩ : ∃ p, kE x y = p := ⟨_, rfl⟩
  obtain ⟨p1, p2⟩ := p
  obtain ⟨t, ht⟩ : ∃ t, jL sv p1 = t := ⟨_, rfl⟩
  obtain ⟨t1, t2⟩ := t; have F2 : Hid (f (j + 1) = (t1, ov || p2 || t2)) := Lib.hid (by rw [HF.out, F.out, hx, hy, hp]; dsimp only; rw [ht]); have G1 := Lib.hid (fun w' h => H1.out w' j h HJ.out); have G2 := Lib.hid (fun w' h => H2.out w' j h HJ.out); have G3 := Lib.hid (fun w => jW x y w); have G4 := Lib.hid (fun w => xP sv p1 w); rw [hx] at G1; rw [hy] at G2; rw [hp] at G3; rw [ht] at G4; dsimp only at G3 G4; clear hx hy hp ht hj hjc; have B1 := Lib.hid B0.out.drew
  go_wp2_with fail
  go_region_held3 (fun w2 => (∀ o, w2.cell? ⟨g, o, none⟩ = #[I r, I c1, (.slice A l.length cp)][o]?) ∧ (∀ o, w2.cell? ⟨g + 1, o, none⟩ = #[I c1, I c2, (.slice A' m.length cp')][o]?))
   (first | with_reducible exact K.out _ B4.out | with_reducible exact K.out _ B3.out | with_reducible exact K.out _ B2.out | with_reducible exact K.out _ B1.out | with_reducible exact K.out _ B0.out)
   (first
     | (go_at_call 92
        refine (G3.out _).mono ?_
        rintro e w4 ⟨rfl, hb⟩; have B4 := Lib.hid (B3.out.trans (hb.mono B3.out.size))
        clear hb)
     | (go_at_call 134
        refine (G2.out _ (A2.out.below B2.out)).mono ?_
        rintro e w3 ⟨rfl, hb⟩; have B3 := Lib.hid (B2.out.trans (hb.mono B2.out.size))
        clear hb)
     | (go_at_call 134
        refine (G1.out _ (A1.out.below B1.out)).mono ?_
        rintro e w2 ⟨rfl, hb⟩; have B2 := Lib.hid (B1.out.trans (hb.mono B1.out.size))
        clear hb))
  go_wp2_with fail
  refine (G4.out _).mono ?_
  rintro e w5 ⟨rfl, hb⟩; have B5 := Lib.hid (B4.out.trans (hb.mono B4.out.size)); clear hb
  cases ov
  · cases p2
    all_goals
     go_wp2
     go_roundw
     case rel => exact ⟨j + 1, t1, _, STEP.out.1, by go_num, rfl, rfl, by simpa using F2, B5⟩
     case measure =>
      have h := STEP.out.2; show c1 - ((j : Int) + 1).toNat < c1 - ((j : Int)).toNat; rw [show ((j : Int) + 1).toNat = j + 1 by omega, show ((j : Int)).toNat = j by omega]; exact h
  · go_wp2
    go_roundw
    case rel => exact ⟨j + 1, t1, _, STEP.out.1, by go_num, rfl, rfl, by simpa using F2, B5⟩
    case measure =>
     have h := STEP.out.2; show c1 - ((j : Int) + 1).toNat < c1 - ((j : Int)).toNat; rw [show ((j : Int) + 1).toNat = j + 1 by omega, show ((j : Int)).toNat = j by omega]; exact h
theorem yZ (r c1 c2 : Nat) (A A' : Option Addr) (cp cp' : Nat) (l m : List Int) (w : World) (hr : r ≤ 8) (hc1 : c1 ≤ 8) (hc2 : c2 ≤ 8) (hl : l.length = r * c1) (hm : m.length = c1 * c2) (hA : Rd w A l) (hA' : Rd w A' m) :
 Calls Tryz.prog 152 #[.agg #[I r, I c1, (.slice A l.length cp)], .agg #[I c1, I c2, (.slice A' m.length cp')]] w fun e w' => ∃ v, e = .returned (.tuple #[.agg #[I r, I c2, v], .bool (uy r c1 c2 l m), I 0]) ∧ Own w' w.heap.size v (mulL r c1 c2 l m) ∧ Below w.heap.size w w' := by
 have N : Hid (bD w [(29, #[I r, I c1, (.slice A l.length cp)]), (29, #[I c1, I c2, (.slice A' m.length cp')]), (29, #[I 0, I 0, .slice none 0 0])] (((w.alloc (.cells #[I r, I c1, (.slice A l.length cp)] 29)).alloc (.cells #[I c1, I c2, (.slice A' m.length cp')] 29)).alloc (.cells #[I 0, I 0, .slice none 0 0] 29))) := Lib.hid ((((bD.none w).push (by simp) _ _).push (by simp) _ _).push (by simp) _ _)
 obtain ⟨L, hL⟩ : ∃ L, mulL r c1 c2 l m = L := ⟨_, rfl⟩
 obtain ⟨b, hb⟩ : ∃ b, uy r c1 c2 l m = b := ⟨_, rfl⟩
 have HM := Lib.hid (uz 186 #[.pointer (some ⟨w.heap.size, 0, none⟩), .pointer (some ⟨w.heap.size + 1, 0, none⟩)] r c2 _ _ _ L b hL hb hr hc2 Uu (Qs r c1 c2 A A' cp cp' w.heap.size l m _ hr hc1 hc2 hl hm (hA.below N.out.be) (hA'.below N.out.be) N.out.r0 N.out.r1)); rw [hL, hb]; clear hr hc1 hc2 hl hm hA hA' hL hb; have hmf := hmf
 have e1 : ((c1 : Int) != (c1 : Int)) = false := by simp
 go_enter Tryz.func152, Tryz.ntmps152
 go_wp2_with fail
 refine HM.out.mono ?_
 rintro e w5 ⟨A2, c3, rfl, ho, hb⟩; have O := Lib.hid ho; have N5 := Lib.hid (N.out.below hb); clear ho hb N HM; have x3 := N5.out.r2.cell; have g3 := N5.out.r2.free; have t3 := N5.out.r2.lt; go_wp2
 refine bodyPost_ret (vO rfl rfl ((N5.out.r2.dK _ _ _).alloc _)) rfl ⟨_, rfl, ?_, (Below.dK N5.out.be (by omega) _ _ _).alloc (by have := N5.out.be.size; simp; omega) _⟩
 exact ((O.out.dK (by simp) _ _ _).alloc _).lower (by simp; omega)
theorem JW (r c1 r2 c2 : Int) (A A' : Option Addr) (cp cp' : Nat) (l m : List Int) (w : World) (hne : c1 ≠ r2) :
 Calls Tryz.prog 152 #[.agg #[I r, I c1, (.slice A l.length cp)], .agg #[I r2, I c2, (.slice A' m.length cp')]] w fun e w' => e = .returned (.tuple #[.agg #[I 0, I 0, .slice none 0 0], .bool false, I 9]) ∧ Below w.heap.size w w' := by
 have N : Hid (bD w [(29, #[I r, I c1, (.slice A l.length cp)]), (29, #[I r2, I c2, (.slice A' m.length cp')]), (29, #[I 0, I 0, .slice none 0 0])] (((w.alloc (.cells #[I r, I c1, (.slice A l.length cp)] 29)).alloc (.cells #[I r2, I c2, (.slice A' m.length cp')] 29)).alloc (.cells #[I 0, I 0, .slice none 0 0] 29))) := Lib.hid ((((bD.none w).push (by simp) _ _).push (by simp) _ _).push (by simp) _ _)
 have e1 : (c1 != r2) = true := by simpa using hne
 clear hne; have x3 := N.out.r2.cell; have g3 := N.out.r2.free
 go_enter Tryz.func152, Tryz.ntmps152
 go_wp2
 exact bodyPost_ret (vO rfl rfl N.out.r2) rfl ⟨rfl, N.out.be⟩
end Go.Proofs.YtcfobekkchhbbaaGreat.KK

namespace Go.Proofs.YtcfobekkchhbbaaGreat.KK
open Go.RowKit Go.Proofs.af.aU Go.Proofs.af.a_ Go.Proofs.af.bf
set_option linter.unusedVariables false
set_option linter.unusedSimpArgs false
def ny (q : Int) : Bool := decide (q < -70368744177664) || decide (q > 70368744177663)
theorem Nh (q : Int) (w : World) : Calls Tryz.prog 130 #[I q] w fun e w' => e = .returned (.bool (ny q)) ∧ Below w.heap.size w w' := by
 by_cases h : q < -70368744177664
 · have h0 : decide (q < -70368744177664) = true := decide_eq_true h
   clear h
   go_enter Tryz.func130, Tryz.ntmps130
   go_wp2
   go_ret
   exact ⟨by simp [ny, h0], Below.refl _ _⟩
 · have h0 : decide (q < -70368744177664) = false := decide_eq_false h
   clear h
   go_enter Tryz.func130, Tryz.ntmps130
   go_wp2
   go_ret
   exact ⟨by simp [ny, h0], Below.refl _ _⟩
theorem take_any {l : List Int} {j : Nat} {x : Int} (h : l[j]? = some x) (ha : (l.take j).any ny = false) (hx : ny x = false) : (l.take (j + 1)).any ny = false := by
 rw [List.take_add_one, h, List.any_append, ha]
 simp [hx]
theorem Zz {l : List Int} {j : Nat} {x : Int} (h : l[j]? = some x) (hx : ny x = true) : l.any ny = true :=
 List.any_eq_true.2 ⟨x, List.mem_of_getElem? h, hx⟩
theorem J3 (A : Option Addr) (c : Nat) (l : List Int) (w : World) (hw : Rd w A l) (hlen : l.length ≤ 1000000) :
 Calls Tryz.prog 78 #[.slice A l.length c, .func (.func 130) #[] #[]] w fun e w' => ∃ x, e = .returned (I x) ∧ decide (x ≥ 0) = l.any ny ∧ Below w.heap.size w w' := by
 have HW := Lib.hid hw; have HL := Lib.hid hlen; clear hw hlen
 go_enter Tryz.func78, Tryz.ntmps78
 go_wp2_with fail
 go_loopw [8] (fun i wr => ∃ k : Nat, k ≤ l.length ∧ i = .int .i64 k ∧ Hid ((l.take k).any ny = false) ∧ Hid (Below w.heap.size w wr)) (fun i _ => l.length - (intOf i).toNat)
 case atStart => exact ⟨0, by omega, rfl, Lib.hid (by simp), Lib.hid (Below.refl _ _)⟩
 case round =>
  obtain ⟨k, hk, rfl, F, HB⟩ := hrel
  by_cases hkl : k = l.length
  · subst hkl
    go_wp2
    go_ret
    exact ⟨_, rfl, by have := F.out; rw [List.take_length] at this; rw [this]; rfl, HB.out⟩
  have hlt : (k : Int) < l.length := by omega
  have hk0 : (0 : Int) ≤ k := by omega
  have STEP : Hid (k + 1 ≤ l.length ∧ l.length - (k + 1) < l.length - k) := Lib.hid (by omega)
  have hw64 : IntKind.i64.wrap ((k : Int) + 1) = (k : Int) + 1 := by have := HL.out; simp [IntKind.wrap, IntKind.bits, IntKind.signed]; omega
  obtain ⟨b, off, rfl, hb, hc⟩ := (HW.out.below HB.out).cells (by omega)
  obtain ⟨x, hx⟩ : ∃ x, l[k]? = some x := ⟨l[k]'(by omega), List.getElem?_eq_getElem (by omega)⟩
  have c0 := hc k x hx; have HX := Lib.hid hx; clear hc hx hk hkl
  go_wp2_with fail
  refine (Nh x _).mono ?_
  rintro e w2 ⟨rfl, hb2⟩; have HB2 := Lib.hid (HB.out.trans (hb2.mono HB.out.size)); clear hb2
  cases hq : ny x
  · have HQ := Lib.hid hq
    clear hq; go_wp2
    go_roundw
    case rel => exact ⟨k + 1, STEP.out.1, by go_num, Lib.hid (take_any HX.out F.out HQ.out), HB2⟩
    case measure =>
     have h := STEP.out.2; show l.length - ((k : Int) + 1).toNat < l.length - ((k : Int)).toNat; rw [show ((k : Int) + 1).toNat = k + 1 by omega, show ((k : Int)).toNat = k by omega]; exact h
  · have HQ := Lib.hid hq
    clear hq; go_wp2
    go_ret
    exact ⟨_, rfl, by rw [Zz HX.out HQ.out]; simp, HB2.out⟩
theorem Et (A : Option Addr) (c : Nat) (l : List Int) (w : World) (hw : Rd w A l) (hlen : l.length ≤ 1000000) :
 Calls Tryz.prog 36 #[.slice A l.length c, .func (.func 130) #[] #[]] w fun e w' => e = .returned (.bool (l.any ny)) ∧ Below w.heap.size w w' := by
 have H := Lib.hid (J3 A c l w hw hlen); clear hw hlen
 go_enter Tryz.func36, Tryz.ntmps36
 go_wp2_with fail
 refine H.out.mono ?_
 rintro e w2 ⟨x, rfl, hx, hb⟩; have HB := Lib.hid hb; have HX := Lib.hid hx; clear hb hx; go_wp2
 go_ret
 exact ⟨by rw [← HX.out]; rfl, HB.out⟩
def iW (r c : Int) (l : List Int) : Bool := decide (r ≥ 1) && decide (r ≤ 8) && decide (c ≥ 1) && decide (c ≤ 8) && ((l.length : Int) == wrap64 (r * c)) && !l.any ny
theorem kG (r c : Int) (A : Option Addr) (cp : Nat) (l : List Int) (w : World) (hw : Rd w A l) :
 Calls Tryz.prog 80 #[.agg #[I r, I c, (.slice A l.length cp)]] w fun e w' => e = .returned (.bool (iW r c l)) ∧ Below w.heap.size w w' := by
 have N : Hid (bD w [(29, #[I r, I c, (.slice A l.length cp)])] (w.alloc (.cells #[I r, I c, (.slice A l.length cp)] 29))) := Lib.hid ((bD.none w).push (by simp) _ _); have HW := Lib.hid hw; clear hw
 cases h0 : decide (r ≥ 1)
 · go_enter Tryz.func80, Tryz.ntmps80
   go_wp2
   go_ret
   exact ⟨by simp [iW, *], N.out.be⟩
 cases h1 : decide (r ≤ 8)
 · go_enter Tryz.func80, Tryz.ntmps80
   go_wp2
   go_ret
   exact ⟨by simp [iW, *], N.out.be⟩
 cases h2 : decide (c ≥ 1)
 · go_enter Tryz.func80, Tryz.ntmps80
   go_wp2
   go_ret
   exact ⟨by simp [iW, *], N.out.be⟩
 cases h3 : decide (c ≤ 8)
 · go_enter Tryz.func80, Tryz.ntmps80
   go_wp2
   go_ret
   exact ⟨by simp [iW, *], N.out.be⟩
 cases h4 : ((l.length : Int) == wrap64 (r * c))
 · go_enter Tryz.func80, Tryz.ntmps80
   go_wp2
   go_ret
   exact ⟨by simp [iW, *], N.out.be⟩
 have hlen : l.length ≤ 1000000 := by
  have a0 := of_decide_eq_true h0; have a1 := of_decide_eq_true h1; have a2 := of_decide_eq_true h2; have a3 := of_decide_eq_true h3
  have a4 : (l.length : Int) = wrap64 (r * c) := by simpa using h4
  have b0 : 0 ≤ r * c := Int.mul_nonneg (by omega) (by omega); have b1 : r * c ≤ 8 * c := Int.mul_le_mul_of_nonneg_right (by omega) (by omega)
  unfold wrap64 at a4
  omega
 have H := Lib.hid (Et A cp l _ (HW.out.below N.out.be) hlen)
 obtain ⟨b, hb⟩ : ∃ b, l.any ny = b := ⟨_, rfl⟩
 have HB := Lib.hid hb; rw [hb] at H; clear hb hlen
 go_enter Tryz.func80, Tryz.ntmps80
 go_wp2_with fail
 refine H.out.mono ?_
 rintro e w2 ⟨rfl, hb⟩; have N2 := Lib.hid (N.out.below hb); clear hb; go_wp2
 go_ret
 exact ⟨by simp [iW, HB.out, *], N2.out.be⟩
theorem Rd.flat {w : World} {ad : Addr} {l : List Int} (h : Rd w (some ad) l) : ∀ j u, (l.map I)[j]? = some u → w.cell? (ad.add j) = some u := by
 intro j u hj; rw [List.getElem?_map] at hj
 cases hx : l[j]? with
 | none => rw [hx] at hj; cases hj
 | some x =>
   rw [hx] at hj
   injection hj with hj
   subst hj
   have hl : j < l.length := by
    rcases Nat.lt_or_ge j l.length with h | h
    · exact h
    · rw [List.getElem?_eq_none h] at hx; cases hx
   obtain ⟨b, off, e, _, hc⟩ := h.cells (by omega)
   injection e with e
   subst e; have := hc j x hx
   unfold Addr.add
   by_cases h0 : j = 0
   · subst h0; simpa using this
   · rw [if_neg h0]; exact this
theorem KL (A : Option Addr) (c : Nat) (l : List Int) (w : World) (hw : Rd w A l) (hlen : l.length ≤ 1000000) (hA : A = none → l.length = 0 ∧ c = 0) :
 Calls Tryz.prog 75 #[.slice A l.length c] w fun e w' => ∃ v, e = .returned v ∧ Own w' w.heap.size v l ∧ Below w.heap.size w w' := by
 cases A with
 | none =>
   obtain ⟨hl, rfl⟩ := hA rfl; obtain rfl := List.eq_nil_of_length_eq_zero hl
   have he : ∀ w : World, (binOp .eql 27 (.slice none 0 0) (.slice none 0 0)).run Tryz.prog w = .ok (.bool true) w := fun _ => rfl
   go_enter Tryz.func75, Tryz.ntmps75
   go_wp2
   go_ret
   exact ⟨_, rfl, Own.nil _ _, Below.refl _ _⟩
 | some ad =>
   have HW := Lib.hid hw; have HL := Lib.hid hlen; clear hw hlen hA
   go_enter Tryz.func75, Tryz.ntmps75
   have he : ∀ w : World, (binOp .eql 27 (.slice (some ad) l.length c) (.slice none 0 0)).run Tryz.prog w = .ok (.bool false) w := fun _ => rfl
   obtain ⟨i0, hi0, hz0, hz1, hz2⟩ := info_parts L9
   go_wp2_with (at_builtin
                refine wpList_append_own_at _ rfl (.tmp 5) (.tmp 6) _ rfl w.heap.size 22 i0 _ 1 8 Tryz.underlying27 hi0 hz0 hz1 hz2 rfl (by omega) (.slice (some ⟨w.heap.size, 0, none⟩) 0 0) 0 [] rfl ?own ad l.length c (l.map I) rfl (by simp) ?news ?one ?h63 ?hby ?base ?_
                case own => exact ⟨rfl, .inr ⟨_, 0, #[], rfl, Nat.le_refl _, heap_alloc_new w _, Nat.le_refl _, by simp [maxLen], rfl, rfl⟩⟩
                case news => exact (HW.out.below ((Below.refl _ _).alloc (Nat.le_refl _) _)).flat
                case one => (intro u hu; simp at hu; obtain ⟨q, _, rfl⟩ := hu; rfl)
                case h63 => (have := HL.out; simp only [maxLen]; omega)
                case hby => (have := HL.out; omega)
                case base => simp
                intro v' w' hown hgrow hnil hat)
   go_ret
   exact ⟨v', rfl, Own.sS (by simpa using hown), ((Below.refl _ _).alloc (Nat.le_refl _) _).grown hgrow (by simp) (by intro k hk; simp [Value.ownBlock] at hk; omega)⟩
def iH (l : List Int) : List Int := upto l.length (fun i k => if i = k then l.getD i 0 else 0) l.length
theorem Ux : Enters 129 := enters Tryz.func129 rfl rfl
theorem LQ (A : Option Addr) (cp g : Nat) (l : List Int) (w : World) (hl : l.length ≤ 8) (hA : Rd w A l) (R : Row w g 27 #[(.slice A l.length cp)]) :
 zG w 129 #[.pointer (some ⟨g, 0, none⟩)] l.length l.length (fun i k => if i = k then l.getD i 0 else 0) (fun _ _ => false) := by
 intro i k w' hi hk hb; have R' := R.below hb R.lt; have x := R'.cell
 show Calls Tryz.prog 129 #[I i, I k, .pointer (some ⟨g, 0, none⟩)] w' fun e w'' => e = .returned (.tuple #[I (if i = k then l.getD i 0 else 0), .bool false]) ∧ Below w'.heap.size w' w''
 by_cases h : i = k
 · subst h
   rw [if_pos rfl]; obtain ⟨b, off, rfl, _, hc⟩ := (hA.below hb).cells (by omega); have c0 := hc i _ (jw hi)
   obtain ⟨y, hy⟩ : ∃ y, l.getD i 0 = y := ⟨_, rfl⟩
   rw [hy] at c0 ⊢
   have e0 : ((i : Int) == (i : Int)) = true := by simp
   have i0 : (0 : Int) ≤ i := by omega
   have i1 : (i : Int) < l.length := by omega
   clear hb hc hy hA hi hk hl R R'
   go_enter Tryz.func129, Tryz.ntmps129
   go_wp2
   go_ret2
   exact ⟨rfl, Below.refl _ _⟩
 · rw [if_neg h]
   have e0 : ((i : Int) == (k : Int)) = false := by simp; omega
   clear hb hA hi hk hl R R' h
   go_enter Tryz.func129, Tryz.ntmps129
   go_wp2
   go_ret2
   exact ⟨rfl, Below.refl _ _⟩
theorem QD (l : List Int) (h1 : 1 ≤ l.length) (h8 : l.length ≤ 8) : iW 1 l.length l = !l.any ny := by
 have e : wrap64 (1 * (l.length : Int)) = l.length := by unfold wrap64; omega
 have e1 : decide ((l.length : Int) ≥ 1) = true := decide_eq_true (by omega); have e2 : decide ((l.length : Int) ≤ 8) = true := decide_eq_true (by omega); simp only [iW, e, e1, e2]
 simp
theorem AU (A : Option Addr) (cp : Nat) (l : List Int) (w : World) (hA : Rd w A l) (h1 : 1 ≤ l.length) (h8 : l.length ≤ 8) (ha : l.any ny = false) :
 Calls Tryz.prog 74 #[(.slice A l.length cp)] w fun e w' => ∃ v, e = .returned (.tuple #[.agg #[I l.length, I l.length, v], I 0]) ∧ Own w' w.heap.size v (iH l) ∧ Below w.heap.size w w' := by
 have N : Hid (bD w [(27, #[(.slice A l.length cp)]), (29, #[I 0, I 0, .slice none 0 0])] ((w.alloc (.cells #[(.slice A l.length cp)] 27)).alloc (.cells #[I 0, I 0, .slice none 0 0] 29))) := Lib.hid (((bD.none w).push (by simp) _ _).push (by simp) _ _); have e1 : decide ((l.length : Int) < 1) = false := decide_eq_false (by omega); have e2 : decide ((l.length : Int) > 8) = false := decide_eq_false (by omega); have H := Lib.hid (kG 1 l.length A cp l _ (hA.below N.out.be)); rw [QD l (by omega) (by omega), ha] at H
 obtain ⟨L, hL⟩ : ∃ L, iH l = L := ⟨_, rfl⟩
 have HM := Lib.hid (fun w' (h : bD w [(27, #[(.slice A l.length cp)]), (29, #[I 0, I 0, .slice none 0 0])] w') => uz 129 #[.pointer (some ⟨w.heap.size, 0, none⟩)] l.length l.length _ _ w' L false hL (BK _ _) h8 h8 Ux (LQ A cp w.heap.size l w' h8 (hA.below h.be) h.r0)); rw [hL]; clear h1 h8 ha hA hL; have hmf := hmf
 go_enter Tryz.func74, Tryz.ntmps74
 go_wp2_with fail
 refine H.out.mono ?_
 rintro e w2 ⟨rfl, hb⟩; have N2 := Lib.hid (N.out.below hb); clear hb
 go_wp2_with fail
 refine (HM.out _ N2.out).mono ?_
 rintro e w5 ⟨A2, c2, rfl, ho, hb⟩; have O := Lib.hid ho; have N5 := Lib.hid (N2.out.below hb); have L4 := N2.out.r1.lt; clear ho hb; have x1 := N5.out.r1.cell; have g1 := N5.out.r1.free; have t1 := N5.out.r1.lt; go_wp2
 refine bodyPost_ret (OI rfl rfl ((N5.out.r1.dK _ _ _).alloc _)) rfl ⟨_, rfl, ?_, (Below.dK N5.out.be (by omega) _ _ _).alloc (by have := N5.out.be.size; simp; omega) _⟩
 exact ((O.out.dK (by omega) _ _ _).alloc _).lower (by omega)
end Go.Proofs.YtcfobekkchhbbaaGreat.KK

namespace Go.Proofs.YtcfobekkchhbbaaGreat.KK
open Go.RowKit Go.Proofs.af.aU Go.Proofs.af.a_ Go.Proofs.af.bf
set_option linter.unusedVariables false
set_option linter.unusedSimpArgs false
theorem qG (r c : Nat) (l : List Int) : (yM r c l).length = c * r := upto_length
def Gq (n : Nat) (l : List Int) : List Int := kC oz n n l (yM n n l)
theorem Ri (n : Nat) (A : Option Addr) (cp : Nat) (l : List Int) (w : World) (hn : n ≤ 8) (hl : l.length = n * n) (hA : Rd w A l) (hcp : l.length ≤ cp) :
 Calls Tryz.prog 188 #[.agg #[I n, I n, .slice A l.length cp]] w fun e w' => ∃ v, e = .returned (.tuple #[.agg #[I n, I n, v], .bool (kZ oz n n l (yM n n l)), I 0]) ∧ Own w' w.heap.size v (Gq n l) ∧ Below w.heap.size w w' := by
 have N : Hid (bD w [(29, #[I n, I n, .slice A l.length cp]), (29, #[I 0, I 0, .slice none 0 0])] ((w.alloc (.cells #[I n, I n, .slice A l.length cp] 29)).alloc (.cells #[I 0, I 0, .slice none 0 0] 29))) := Lib.hid (((bD.none w).push (by simp) _ _).push (by simp) _ _); have HA := Lib.hid hA; have HT := Lib.hid (fun w' h => nG n n A cp l w' hn hn hl h); have HE := Lib.hid (fun A' cp' w' h h' hc => Rj n n A A' cp cp' l (yM n n l) w' hn hn hl (qG n n l) h h' hcp hc)
 obtain ⟨T, hT⟩ : ∃ T, yM n n l = T := ⟨_, rfl⟩
 rw [hT] at HT HE
 unfold Gq
 rw [hT]
 obtain ⟨L, hL⟩ : ∃ L, kC oz n n l T = L := ⟨_, rfl⟩
 obtain ⟨b, hb⟩ : ∃ b, kZ oz n n l T = b := ⟨_, rfl⟩
 rw [hL, hb] at HE; rw [hL, hb]; have KK : Hid (∀ w', bD w [(29, #[I n, I n, .slice A l.length cp]), (29, #[I 0, I 0, .slice none 0 0])] w' → ∀ o, w'.cell? ⟨w.heap.size, o, none⟩ = #[I n, I n, .slice A l.length cp][o]?) := Lib.hid (fun w' h => h.r0.cell); clear hn hl hA hcp hT hL hb; have y0 := N.out.r0.cell
 go_enter Tryz.func188, Tryz.ntmps188
 go_wp2_with fail
 go_region_held3 (fun w' => ∀ o, w'.cell? ⟨w.heap.size, o, none⟩ = #[I n, I n, .slice A l.length cp][o]?)
  (first | with_reducible exact KK.out _ N3.out | with_reducible exact KK.out _ N2.out | with_reducible exact KK.out _ N.out.drew | exact (Row.rG N3.out.r0 (C := w.heap.size + 1) (by simp)).cell)
  (first
    | (go_at_call 187
       refine (HE.out _ _ _ (HA.out.below N2.out.be) RT.out CT.out).mono ?_
       rintro e w3 ⟨A3, c3, rfl, ho, hb⟩; have O := Lib.hid ho; have N3 := Lib.hid (N2.out.below hb); have L3 := N2.out.r1.lt; have x1 := N3.out.r1.cell; have g1 := N3.out.r1.free
       clear hb ho)
    | (go_at_call 82
       refine (HT.out _ (HA.out.below N.out.drew.be)).mono ?_
       rintro e w2 ⟨v, rfl, ho, hb⟩; obtain ⟨A2, c2, rfl, ht, rt⟩ := ho.reads; have RT := Lib.hid rt; have CT := Lib.hid ht; have N2 := Lib.hid (N.out.drew.below hb)
       clear hb ho rt ht))
 all_goals
  go_wp2
  refine bodyPost_ret (vO rfl rfl (N3.out.r1.dK _ _ _)) rfl ⟨_, rfl, ?_, Below.dK N3.out.be (by omega) _ _ _⟩
  exact (O.out.dK (by omega) _ _ _).lower (by omega)
end Go.Proofs.YtcfobekkchhbbaaGreat.KK

namespace Go.Proofs.YtcfobekkchhbbaaGreat.KK
open Go.RowKit Go.Proofs.af.aU Go.Proofs.af.a_ Go.Proofs.af.bf
set_option linter.unusedVariables false
set_option linter.unusedSimpArgs false
def Fp : List Value → Nat → List Value → List Value
 | l, _, [] => l
 | l, o, v :: vs => Fp (l.set o v) (o + 1) vs
theorem Row.setCells {B : Nat} {t : TypeId} : ∀ (vs : List Value) (o : Nat) (w : World) (arr : Array Value), Row w B t arr → ∃ RY, Row (w.setCells B o vs) B t RY ∧ RY.toList = Fp arr.toList o vs := by
 intro vs
 induction vs with
 | nil => intro o w arr h; exact ⟨arr, h, rfl⟩
 | cons v vs ih =>
   intro o w arr h; obtain ⟨RY, h1, h2⟩ := ih (o + 1) _ _ (h.set o v); refine ⟨RY, h1, ?_⟩
   rw [h2]
   simp [Fp]
theorem fQ {B n : Nat} {w0 : World} : ∀ (vs : List Value) (o : Nat) (w : World), Below n w0 w → n ≤ B → Below n w0 (w.setCells B o vs) := by
 intro vs
 induction vs with
 | nil => intro o w h _; exact h
 | cons v vs ih => intro o w h hB; exact ih (o + 1) _ (h.setCell (p := ⟨B, o, none⟩) hB v) hB
theorem Tc (a b : Value) : ∀ (k j m : Nat), k ≤ m → Fp (List.replicate j a ++ List.replicate m b) j (List.replicate k a) = List.replicate (j + k) a ++ List.replicate (m - k) b := by
 intro k
 induction k with
 | zero => intro j m _; simp [Fp]
 | succ k ih =>
   intro j m h
   obtain ⟨m', rfl⟩ : ∃ m', m = m' + 1 := ⟨m - 1, by omega⟩
   show Fp ((List.replicate j a ++ List.replicate (m' + 1) b).set j a) (j + 1) (List.replicate k a) = _
   have e : (List.replicate j a ++ List.replicate (m' + 1) b).set j a = List.replicate (j + 1) a ++ List.replicate m' b := by
    rw [List.set_append_right _ _ (by simp)]; rw [List.length_replicate, Nat.sub_self, List.replicate_succ, List.set_cons_zero, show j + 1 = j + 1 from rfl, List.replicate_succ' (n := j), List.append_assoc]; rfl
   rw [e, ih (j + 1) m' (by omega), show j + 1 + k = j + (k + 1) by omega, show m' - k = m' + 1 - (k + 1) by omega]
def Rep (w : World) (B n : Nat) (q : Int) (j : Nat) : Prop := ∃ arr, Row w B 22 arr ∧ arr.toList = List.replicate j (I q) ++ List.replicate (n - j) (I 0)
theorem Rep.cell {w : World} {B n : Nat} {q : Int} {j : Nat} (h : Rep w B n q j) {x : Nat} (hx : x < j) : w.cell? ⟨B, x, none⟩ = some (I q) := by
 obtain ⟨arr, hr, ha⟩ := h; rw [hr.cell x, ← Array.getElem?_toList, ha, List.getElem?_append_left (by simpa using hx)]
 simp [hx]
theorem Rep.some {w : World} {B n : Nat} {q : Int} {j : Nat} (h : Rep w B n q j) {x : Nat} (hx : x < n) (hj : j ≤ n) : (w.cell? ⟨B, x, none⟩).isSome = true := by
 obtain ⟨arr, hr, ha⟩ := h
 have hs : arr.size = n := by rw [← Array.length_toList, ha]; simp; omega
 rw [hr.cell x, Array.getElem?_eq_getElem (by omega)]; rfl
theorem Rep.free {w : World} {B n : Nat} {q : Int} {j : Nat} (h : Rep w B n q j) (x : Nat) : w.frozen? ⟨B, x, none⟩ = false := by
 obtain ⟨arr, hr, _⟩ := h; exact hr.free x
theorem Rep.put {w : World} {B n : Nat} {q : Int} {j k : Nat} (h : Rep w B n q j) (hk : j + k ≤ n) : Rep (w.setCells B j (List.replicate k (I q))) B n q (j + k) := by
 obtain ⟨arr, hr, ha⟩ := h; obtain ⟨RY, h1, h2⟩ := hr.setCells (List.replicate k (I q)) j; exact ⟨RY, h1, by rw [h2, ha, Tc _ _ _ _ _ (by omega), show n - j - k = n - (j + k) by omega]⟩
theorem Rep.drew {w : World} {B n : Nat} {q : Int} {j : Nat} (h : Rep w B n q j) : Rep w.drew B n q j := h
theorem Rep.own {w : World} {B n base : Nat} {q : Int} (h : Rep w B n q n) (hb : base ≤ B) (hn : n ≤ 1000000) : Own w base (.slice (Option.some ⟨B, 0, none⟩) n n) (List.replicate n q) := by
 obtain ⟨arr, hr, ha⟩ := h
 have hs : arr.size = n := by rw [← Array.length_toList, ha]; simp
 have hl : (List.replicate n q).length = n := by simp
 refine Own.sS ⟨by rw [hl]; simp, .inr ⟨B, n, arr, by rw [hl], hb, hr, by rw [hl]; omega, by simp only [maxLen]; omega, by rw [hs]; omega, ?_⟩⟩
 rw [hl, Nat.mul_one, ha, Nat.sub_self]
 simp
theorem KJ (w : World) (ty : TypeId) (B j dLen dCap b sLen sCap k : Nat) (q : Int) (hk : k = Nat.min sLen dLen)
 (hsrc : ∀ x, x < k → w.cell? ⟨b, x, none⟩ = some (I q)) (hc : ∀ x, x < k → (w.cell? ⟨B, j + x, none⟩).isSome = true) (hf : ∀ x, w.frozen? ⟨B, x, none⟩ = false) :
 (Builtin.copy_ #[27, 27] ty #[.slice (some ⟨B, j, none⟩) dLen dCap, .slice (some ⟨b, 0, none⟩) sLen sCap]).run Tryz.prog w = .ok (I k) (w.setCells B j (List.replicate k (I q))) := by
 have h := run_copy_cells (P := Tryz.prog) w 27 27 ty 22 B j dLen dCap ⟨b, 0, none⟩ sLen sCap (List.replicate k (I q)) Tryz.underlying27 (by kernel_rfl) (by simpa using hk)
  (fun x v hx => by
    rw [List.getElem?_replicate] at hx
    split at hx
    · injection hx with hx
      subst hx; have := hsrc x (by assumption)
      unfold Addr.add
      by_cases h0 : x = 0
      · subst h0; simpa using this
      · rw [if_neg h0]; simpa using this
    · cases hx)
  (fun x hx => hc x (by simpa using hx)) (fun x hx => hf _) (fun v hv => by rw [List.eq_of_mem_replicate hv]; rfl)
 simpa [goInt] using h
theorem Qx (w : World) {ops : Array Oper} {o : Oper} {a : Act} {K : Act → World → Prop} {Q : Exit → Act → World → Prop} {E : Prop} (hg : o.guard = none) (d s : Operand)
 (hop : o.op = .call { callee := .builtin .copy, args := #[d, s], argTypes := #[27, 27] })
 (B j dLen dCap b sLen sCap k : Nat) (q : Int) (hd : a.eval d = .slice (some ⟨B, j, none⟩) dLen dCap) (hs : a.eval s = .slice (some ⟨b, 0, none⟩) sLen sCap) (hk : k = Nat.min sLen dLen)
 (hsrc : ∀ x, x < k → w.cell? ⟨b, x, none⟩ = some (I q)) (hc : ∀ x, x < k → (w.cell? ⟨B, j + x, none⟩).isSome = true) (hf : ∀ x, w.frozen? ⟨B, x, none⟩ = false)
 (hK : K (a.put o.dst (I k)) (w.setCells B j (List.replicate k (I q)))) :
 if Region.wanted o (yielded ops a.tmps) = true then Oper.wp Tryz.prog o a w K Q else E := by
 have hw : Region.wanted o (yielded ops a.tmps) = true := by simp [Region.wanted, hg]
 rw [if_pos hw]; have hrun := KJ w o.type B j dLen dCap b sLen sCap k q hk hsrc hc hf
 unfold Oper.wp execOp
 simp only [hop, resolve, invoke, builtin, Sem.run_bind, Sem.run_pure, Result.andThen_ok, List.map_toArray, List.map_cons, List.map_nil, hd, hs, hrun]; exact hK
theorem Gh (w : World) (n : Nat) (hn : n ≤ 1000000) : (Instr.makeSlice 27 (.int .i64 n) (.int .i64 n)).run Tryz.prog w = .ok (.slice (some ⟨w.heap.size, 0, none⟩) n n) (w.alloc (.cells (madeCells #[I 0] n) 22)) := by
 obtain ⟨i0, hi0, hz0, hz1, hz2⟩ := info_parts L9; have := run_make (P := Tryz.prog) w 27 22 i0 (I 0) Tryz.underlying27 hi0 hz0 .i64 .i64 n n (by omega) (Int.le_refl _) (by rw [hz2]; omega) (by omega); rw [hz1] at this
 simpa [Value.cells] using this
theorem QS (n : Nat) : (madeCells #[I 0] n).toList = List.replicate n (I 0) := by
 unfold madeCells
 apply List.ext_getElem
 · simp
 · intro i h1 h2
   simp at h1 ⊢
   rw [Nat.mod_one]; rfl
theorem Ig (b n : Nat) (q : Int) (w : World) (hb : w.cell? ⟨b, 0, none⟩ = some (I q)) (h1 : 1 ≤ n) (h8 : n ≤ 8) :
 Calls Tryz.prog 210 #[.slice (some ⟨b, 0, none⟩) 1 1, I n] w fun e w' => ∃ A c, e = .returned (.slice A n c) ∧ Own w' w.heap.size (.slice A n c) (List.replicate n q) ∧ Below w.heap.size w w' := by
 have hm : PQ.bits_Mul.f 1 (n : Int) = some ((0 : Int), (n : Int)) := by
  rcases (show n = 1 ∨ n = 2 ∨ n = 3 ∨ n = 4 ∨ n = 5 ∨ n = 6 ∨ n = 7 ∨ n = 8 by omega) with h | h | h | h | h | h | h | h <;> subst h <;> decide +kernel
 have HM := Lib.hid (fun w => PQ.bits_Mul.calls 1 n 0 n w hm); have e0 : decide ((n : Int) < 0) = false := decide_eq_false (by omega); have e1 : decide ((n : Int) > 9223372036854775807) = false := decide_eq_false (by omega)
 have e2 : IntKind.u64.wrap (n : Int) = n := by simp [IntKind.wrap, IntKind.bits, IntKind.signed]; omega
 have e3 : IntKind.i64.wrap (n : Int) = n := by simp [IntKind.wrap, IntKind.bits, IntKind.signed]; omega
 have H1 := Lib.hid h1; have H8 := Lib.hid h8; have HB := Lib.hid hb; clear hm h1 h8 hb
 go_enter Tryz.func210, Tryz.ntmps210
 go_wp2_with fail
 refine (HM.out _).mono ?_
 rintro e w2 ⟨rfl, hd⟩; have D2 := Lib.hid hd.below; clear hd; have hz := Gh w2 n (by have := H8.out; omega); have R0 : Hid (Rep (w2.alloc (.cells (madeCells #[I 0] n) 22)) w2.heap.size n q 0) := Lib.hid ⟨_, Row.new _ _ _, by rw [QS]; simp⟩; have B2 : Hid (Below w.heap.size w (w2.alloc (.cells (madeCells #[I 0] n) 22))) := Lib.hid (D2.out.alloc D2.out.size _); have S2 : Hid (w.heap.size ≤ w2.heap.size) := Lib.hid D2.out.size; have hb2 : Hid ((w2.alloc (.cells (madeCells #[I 0] n) 22)).cell? ⟨b, 0, none⟩ = some (I q)) := Lib.hid ((B2.out.cell (p := ⟨b, 0, none⟩) (cell_lt HB.out)).trans HB.out)
 have hx0 : ∀ x, x < 1 → (w2.alloc (.cells (madeCells #[I 0] n) 22)).cell? ⟨b, x, none⟩ = some (I q) := by
  intro x hx
  have : x = 0 := by omega
  subst this; exact hb2.out
 have hx1 : ∀ x, x < 1 → ((w2.alloc (.cells (madeCells #[I 0] n) 22)).cell? ⟨w2.heap.size, 0 + x, none⟩).isSome = true := by
  intro x hx; have := H1.out; exact R0.out.some (by omega) (by omega)
 have hx2 : 1 = Nat.min 1 n := (Nat.min_eq_left H1.out).symm; have hcp := KJ (w2.alloc (.cells (madeCells #[I 0] n) 22)) 3 w2.heap.size 0 n n b 1 1 1 q hx2 hx0 hx1 R0.out.free; clear hx0 hx1 hx2; have R1 := Lib.hid (R0.out.put (k := 1) (by have := H1.out; omega)); have B3 := Lib.hid (fQ (B := w2.heap.size) (List.replicate 1 (I q)) 0 _ B2.out S2.out)
 obtain ⟨w3, hw3⟩ : ∃ w3, (w2.alloc (.cells (madeCells #[I 0] n) 22)).setCells w2.heap.size 0 (List.replicate 1 (I q)) = w3 := ⟨_, rfl⟩
 rw [hw3] at hcp R1 B3; clear hw3
 go_wp2_with fail
 clear hcp hz R0 B2 hb2 D2
 go_loopw [8] (fun jj wr => ∃ j : Nat, 1 ≤ j ∧ j ≤ n ∧ jj = .int .i64 j ∧ Hid (Rep wr w2.heap.size n q j) ∧ Hid (Below w.heap.size w wr)) (fun jj _ => n - (intOf jj).toNat)
 case atStart => exact ⟨1, by omega, H1.out, rfl, by simpa using R1, B3⟩
 case round =>
  clear R1 B3; obtain ⟨j, h1, hj, rfl, R, HB⟩ := hrel
  by_cases hjn : j = n
  · subst hjn
    go_wp2
    go_ret
    exact ⟨_, _, rfl, R.out.own S2.out (by have := H8.out; omega), HB.out⟩
  have hlt : (j : Int) < n := by omega
  have hj0 : (0 : Int) ≤ j := by omega
  have hjle : (j : Int) ≤ n := by omega
  have hne : ¬ n = j := by omega
  obtain ⟨k, hk⟩ : ∃ k, Nat.min j (n - j) = k := ⟨_, rfl⟩
  have hk2 : k ≤ j ∧ k ≤ n - j ∧ 1 ≤ k := by subst hk; exact ⟨Nat.min_le_left _ _, Nat.min_le_right _ _, Nat.le_min.2 ⟨h1, by omega⟩⟩
  have STEP : Hid (1 ≤ j + k ∧ j + k ≤ n ∧ n - (j + k) < n - j) := Lib.hid (by omega)
  have hw64 : IntKind.i64.wrap ((j : Int) + k) = ((j + k : Nat) : Int) := by have := H8.out; simp [IntKind.wrap, IntKind.bits, IntKind.signed]; omega
  have HK := Lib.hid hk; have Dj := Lib.hid hk2; have HJ := Lib.hid (show 1 ≤ j ∧ j < n by omega); clear hk hk2 h1 hj hjn
  have hq0 : ∀ x, x < k → wr.drew.cell? ⟨w2.heap.size, x, none⟩ = some (I q) := fun x hx => R.out.drew.cell (by have := Dj.out; omega)
  have hq1 : ∀ x, x < k → (wr.drew.cell? ⟨w2.heap.size, j + x, none⟩).isSome = true := fun x hx => R.out.drew.some (by have := Dj.out; have := HJ.out; omega) (by have := HJ.out; omega)
  have Q0 := Lib.hid hq0; have Q1 := Lib.hid hq1; clear hq0 hq1
  go_wp2_with fail
  go_region_held3 (fun w' => True)
   (first | trivial)
   (first
     | (refine Qx _ rfl (.tmp 41) (.tmp 44) rfl w2.heap.size j (n - j) (n - j) w2.heap.size j n k q rfl rfl HK.out.symm Q0.out Q1.out R.out.drew.free ?_
        have R2 := Lib.hid (R.out.drew.put (k := k) (by have := STEP.out; omega)); have HB2 := Lib.hid (fQ (B := w2.heap.size) (List.replicate k (I q)) j _ HB.out.drew S2.out)
        generalize wr.drew.setCells w2.heap.size j (List.replicate k (I q)) = w4 at R2 HB2 ⊢))
  all_goals
   go_wp2
   go_roundw
   case rel => exact ⟨j + k, STEP.out.1, STEP.out.2.1, by go_num, R2, HB2⟩
   case measure =>
    have h := STEP.out.2.2; show n - ((j + k : Nat) : Int).toNat < n - ((j : Int)).toNat; rw [Int.toNat_natCast, Int.toNat_natCast]; exact h
def oW (n : Nat) : List Int := iH (List.replicate n 16777216)
theorem Rh (n : Nat) (w : World) (h1 : 1 ≤ n) (h8 : n ≤ 8) :
 Calls Tryz.prog 204 #[I n] w fun e w' => ∃ v, e = .returned (.tuple #[.agg #[I n, I n, v], I 0]) ∧ Own w' w.heap.size v (oW n) ∧ Below w.heap.size w w' := by
 have N : Hid (bD w [(29, #[I 0, I 0, .slice none 0 0]), (22, #[I 16777216])] ((w.alloc (.cells #[I 0, I 0, .slice none 0 0] 29)).alloc (.cells #[I 16777216] 22))) := Lib.hid (((bD.none w).push (by simp) _ _).push (by simp) _ _); have e1 : decide ((n : Int) < 1) = false := decide_eq_false (by omega); have e2 : decide ((n : Int) > 8) = false := decide_eq_false (by omega); have HR := Lib.hid (Ig (w.heap.size + 1) n 16777216 _ (N.out.r1.cell 0) h1 h8)
 have hany : (List.replicate n (16777216 : Int)).any ny = false := by
  rw [List.any_eq_false]; intro x hx; rw [List.eq_of_mem_replicate hx]
  decide
 have hlen : (List.replicate n (16777216 : Int)).length = n := by simp
 have HD := Lib.hid (fun A c w' h => AU A c (List.replicate n 16777216) w' h (by rw [hlen]; exact h1) (by rw [hlen]; exact h8) hany)
 obtain ⟨L, hL⟩ : ∃ L, oW n = L := ⟨_, rfl⟩
 rw [hL]
 unfold oW at hL
 rw [hlen, hL] at HD; clear h1 h8 hany hlen hL
 go_enter Tryz.func204, Tryz.ntmps204
 go_wp2_with fail
 refine HR.out.mono ?_
 rintro e w2 ⟨A, c, rfl, ho, hb⟩; have N2 := Lib.hid (N.out.below hb); obtain ⟨A', c', he, _, hr⟩ := ho.reads
 injection he with e1 e2 e3
 subst e1 e3; have HR2 := Lib.hid hr; clear hb ho hr e2 HR
 go_wp2_with fail
 refine (HD.out _ _ _ HR2.out).mono ?_
 rintro e w3 ⟨v, rfl, ho, hb⟩; obtain ⟨A3, c3, rfl, _, _⟩ := ho.reads; have O := Lib.hid ho; have N3 := Lib.hid (N2.out.below hb); have L2 := N2.out.r1.lt; clear hb ho; have x0 := N3.out.r0.cell; have g0 := N3.out.r0.free; have t0 := N3.out.r0.lt; go_wp2
 refine bodyPost_ret (OI rfl rfl (N3.out.r0.dK _ _ _)) rfl ⟨_, rfl, ?_, Below.dK N3.out.be (by omega) _ _ _⟩
 exact (O.out.dK (by omega) _ _ _).lower (by omega)
end Go.Proofs.YtcfobekkchhbbaaGreat.KK

namespace Go.Proofs.YtcfobekkchhbbaaGreat.PQ
open Go.RowKit Go.Proofs.af.aU Go.Proofs.af.a_ Go.Proofs.af.bf Go.Proofs.YtcfobekkchhbbaaGreat.KK
set_option linter.unusedVariables false
set_option linter.unusedSimpArgs false
theorem Tt {a b : Int} {n : Nat} (ha : 0 ≤ a) (hb : 0 ≤ b) (h : (n : Int) = a * b) : n = a.toNat * b.toNat := by
 obtain ⟨x, rfl⟩ := Int.eq_ofNat_of_zero_le ha; obtain ⟨y, rfl⟩ := Int.eq_ofNat_of_zero_le hb; simp only [Int.toNat_natCast]; exact_mod_cast h
theorem toInt {a : Int} (ha : 0 ≤ a) : ((a.toNat : Nat) : Int) = a := by omega
def kU.f (aY : Int) (bu : Int) (bn : List Int) : Option (Int × Int × List Int) := if 0 ≤ aY ∧ aY ≤ 8 ∧ 0 ≤ bu ∧ bu ≤ 8 ∧ (bn.length : Int) = aY * bu then some (bu, aY, yM aY.toNat bu.toNat bn) else none
theorem kU.calls (aY : Int) (bu : Int) (bZ : Option Addr) (bY : Nat) (bn : List Int) (r1 : Int) (r2 : Int) (r3 : List Int) (w : World) (jE : Kd.C (Kd.int .i64) w bZ bn.length bn) (jY : bn.length ≤ bY) (h : kU.f aY bu bn = some (r1, r2, r3)) :
 Calls Tryz.prog 82 #[.agg #[.int .i64 aY, .int .i64 bu, .slice bZ bn.length bY]] w fun e w' => ∃ zS : Value, e = .returned (.agg #[.int .i64 r1, .int .i64 r2, zS]) ∧ Kd.R (Kd.int .i64) 22 w' w.heap.size (fun _ => True) zS r3 ∧ Below w.heap.size w w' := by
 unfold kU.f at h
 split at h
 · rename_i hs
   obtain ⟨s0, s1, s2, s3, s4⟩ := hs; simp only [Option.some.injEq, Prod.mk.injEq] at h; obtain ⟨rfl, rfl, rfl⟩ := h; have := nG aY.toNat bu.toNat bZ bY bn w (by omega) (by omega) (Tt s0 s2 s4) jE; rw [toInt s0, toInt s2] at this; exact this
 · cases h
def jQ.f (aY : Int) (bu : Int) (bn : List Int) (bV : Int) (bW : Int) (bK : List Int) : Option (Int × Int × List Int × Bool × Int) :=
 if bu = bV then (if (0 ≤ aY ∧ aY ≤ 8 ∧ 0 ≤ bu ∧ bu ≤ 8 ∧ (bn.length : Int) = aY * bu) ∧ (0 ≤ bV ∧ bV ≤ 8 ∧ 0 ≤ bW ∧ bW ≤ 8 ∧ (bK.length : Int) = bV * bW) then some (aY, bW, mulL aY.toNat bu.toNat bW.toNat bn bK, uy aY.toNat bu.toNat bW.toNat bn bK, 0) else none) else some (0, 0, [], false, 9)
theorem jQ.calls (aY : Int) (bu : Int) (bZ : Option Addr) (bY : Nat) (bn : List Int) (bV : Int) (bW : Int) (fV : Option Addr) (f_ : Nat) (bK : List Int) (r1 : Int) (r2 : Int) (r3 : List Int) (r4 : Bool) (r5 : Int) (w : World) (jE : Kd.C (Kd.int .i64) w bZ bn.length bn) (jY : bn.length ≤ bY) (nY : Kd.C (Kd.int .i64) w fV bK.length bK) (oM : bK.length ≤ f_) (h : jQ.f aY bu bn bV bW bK = some (r1, r2, r3, r4, r5)) :
 Calls Tryz.prog 152 #[.agg #[.int .i64 aY, .int .i64 bu, .slice bZ bn.length bY], .agg #[.int .i64 bV, .int .i64 bW, .slice fV bK.length f_]] w fun e w' => ∃ zS : Value, e = .returned (.tuple #[.agg #[.int .i64 r1, .int .i64 r2, zS], .bool r4, .int .i64 r5]) ∧ Kd.R (Kd.int .i64) 22 w' w.heap.size (fun _ => True) zS r3 ∧ Below w.heap.size w w' := by
 unfold jQ.f at h
 split at h
 · rename_i he
   subst he
   split at h
   · rename_i hs
     obtain ⟨⟨s0, s1, s2, s3, s4⟩, t0, t1, t2, t3, t4⟩ := hs; simp only [Option.some.injEq, Prod.mk.injEq] at h; obtain ⟨rfl, rfl, rfl, rfl, rfl⟩ := h; have := yZ aY.toNat bu.toNat bW.toNat bZ fV bY f_ bn bK w (by omega) (by omega) (by omega) (Tt s0 s2 s4) (Tt t0 t2 t4) jE nY; rw [toInt s0, toInt s2, toInt t2] at this; exact this
   · cases h
 · rename_i he
   simp only [Option.some.injEq, Prod.mk.injEq] at h; obtain ⟨rfl, rfl, rfl, rfl, rfl⟩ := h; refine (JW aY bu bV bW bZ fV bY f_ bn bK w he).mono ?_
   rintro e w' ⟨rfl, hb⟩; exact ⟨_, rfl, Own.nil _ _, hb⟩
def qL.f (aY : Int) (bu : Int) (bn : List Int) : Option (Int × Int × List Int × Bool × Int) := if aY = bu ∧ 0 ≤ aY ∧ aY ≤ 8 ∧ 0 ≤ bu ∧ bu ≤ 8 ∧ (bn.length : Int) = aY * bu then some (aY, bu, Gq aY.toNat bn, kZ oz aY.toNat aY.toNat bn (yM aY.toNat aY.toNat bn), 0) else none
theorem qL.calls (aY : Int) (bu : Int) (bZ : Option Addr) (bY : Nat) (bn : List Int) (r1 : Int) (r2 : Int) (r3 : List Int) (r4 : Bool) (r5 : Int) (w : World) (jE : Kd.C (Kd.int .i64) w bZ bn.length bn) (jY : bn.length ≤ bY) (h : qL.f aY bu bn = some (r1, r2, r3, r4, r5)) :
 Calls Tryz.prog 188 #[.agg #[.int .i64 aY, .int .i64 bu, .slice bZ bn.length bY]] w fun e w' => ∃ zS : Value, e = .returned (.tuple #[.agg #[.int .i64 r1, .int .i64 r2, zS], .bool r4, .int .i64 r5]) ∧ Kd.R (Kd.int .i64) 22 w' w.heap.size (fun _ => True) zS r3 ∧ Below w.heap.size w w' := by
 unfold qL.f at h
 split at h
 · rename_i hs
   obtain ⟨rfl, s0, s1, s2, s3, s4⟩ := hs; simp only [Option.some.injEq, Prod.mk.injEq] at h; obtain ⟨rfl, rfl, rfl, rfl, rfl⟩ := h; have := Ri aY.toNat bZ bY bn w (by omega) (Tt s0 s2 s4) jE jY; rw [toInt s0] at this; exact this
 · cases h
end Go.Proofs.YtcfobekkchhbbaaGreat.PQ

namespace Go.Proofs.YtcfobekkchhbbaaGreat.PR
open Go.RowKit Go.Proofs.YtcfobekkchhbbaaGreat.PQ Go.Proofs.af.aU Go.Proofs.af.a_ Go.Proofs.af.bf
attribute [local go_sem] jq jm kJ kH iM iL jo jl
set_option linter.unusedVariables false
set_option linter.unusedSimpArgs false
def Uk : Option Int → Value
 | none => .nilIface
 | some c => .iface 0 (.int .i64 c)
theorem aQ : Uk none = .nilIface := rfl
theorem aN (c : Int) : Uk (some c) = .iface 0 (.int .i64 c) := rfl
end Go.Proofs.YtcfobekkchhbbaaGreat.PR

namespace Go.Proofs.YtcfobekkchhbbaaGreat.PR
open Go.RowKit Go.Proofs.YtcfobekkchhbbaaGreat.PQ Go.Proofs.af.aU Go.Proofs.af.a_ Go.Proofs.af.bf
attribute [local go_sem] jq jm kJ kH iM iL jo jl
set_option linter.unusedVariables false
set_option linter.unusedSimpArgs false
def aK (w0 W : World) (g : Nat) (f0 : Bool) : Prop := W.heap[g]? = some (.cells #[.bool f0] 213 (0, 0)) ∧ w0.heap.size ≤ g
theorem aK.grown {w0 W : World} {g : Nat} {f0 : Bool} {W1 : World} {row : Option Nat} (h : aK w0 W g f0) (hw : W.grownBy W1 row) (hne : some g ≠ row) : aK w0 W1 g f0 := by
 obtain ⟨hb, hg⟩ := h; exact ⟨xO hb hw hne, hg⟩
theorem aK.below {w0 W : World} {g : Nat} {f0 : Bool} {W1 : World} (h : aK w0 W g f0) (hw : Below W.heap.size W W1) : aK w0 W1 g f0 := h.grown (gu hw none) (by simp)
theorem aK.alloc {w0 W : World} {g : Nat} {f0 : Bool} (h : aK w0 W g f0) (o : Obj) : aK w0 (W.alloc o) g f0 := h.below (ak (Below.refl _ _) o)
theorem aK.drewN {w0 W : World} {g : Nat} {f0 : Bool} (h : aK w0 W g f0) (m : Nat) : aK w0 (W.drewN m) g f0 := h
theorem aK.drew {w0 W : World} {g : Nat} {f0 : Bool} (h : aK w0 W g f0) : aK w0 W.drew g f0 := h
theorem aK.apart {w0 W : World} {g : Nat} {f0 : Bool} {α : Type} {d : Kd α} {e : Nat} {base : Nat} {ok : Nat → Prop} {v : Value} {xs : List α} (h : aK w0 W g f0) (ho : d.R e W base ok v xs) (ht : ∀ q, q ∈ e :: d.E → q ≠ 213) : d.R e W base (fun k => ok k ∧ k ≠ g) v xs := by
 obtain ⟨hb, hg⟩ := h; exact Kd.l_ ho hb ht
theorem aK.lt {w0 W : World} {g : Nat} {f0 : Bool} (h : aK w0 W g f0) : g < W.heap.size := by
 obtain ⟨hb, hg⟩ := h; exact fB hb
theorem aK.ge {w0 W : World} {g : Nat} {f0 : Bool} (h : aK w0 W g f0) : w0.heap.size ≤ g := by
 obtain ⟨hb, hg⟩ := h; exact hg
theorem aK.far {w0 W : World} {g : Nat} {f0 : Bool} {p : Addr} (h : aK w0 W g f0) (hne : g ≠ p.block) (u : Value) : aK w0 (W.setCell p u) g f0 := by
 obtain ⟨hb, hg⟩ := h; exact ⟨iw hb hne u, hg⟩
theorem Ew {W : World} {g : Nat} {f0 : Bool} (h : W.heap[g]? = some (.cells #[.bool f0] 213 (0, 0))) : W.cell? ⟨g, 0, none⟩ = some (.bool f0) := (az h 0).trans rfl
theorem aK.jD {w0 W : World} {g : Nat} {f0 : Bool} (h : aK w0 W g f0) (x : Bool) : aK w0 (W.setCell ⟨g, 0, none⟩ (.bool x)) g x := by
 obtain ⟨hb, hg⟩ := h; exact ⟨by simpa using PU hb 0 (.bool x), hg⟩
def dX.f (oQ : Bool) (bV : Int) (bW : Int) (bK : List Int) (a2 : Bool) (a3 : Int) : Option (Int × Int × List Int × Bool) := if oQ = true then (some (bV, bW, bK, true)) else (some (bV, bW, bK, a2))
theorem dX.calls (g : Nat) (oQ : Bool) (bV : Int) (bW : Int) (uf : Nat → Prop) (LH : Value) (bK : List Int) (a2 : Bool) (a3 : Int) (r1 : Int) (r2 : Int) (r3 : List Int) (r4 : Bool) (w0 w : World) (hI : aK w0 w g oQ) (hB : Below w0.heap.size w0 w) (aaZ : Kd.R (Kd.int .i64) 22 w w0.heap.size uf LH bK) (h : dX.f oQ bV bW bK a2 a3 = some (r1, r2, r3, r4)) :
 Calls Tryz.prog 151 #[.pointer (some ⟨g, 0, none⟩), .agg #[.int .i64 bV, .int .i64 bW, LH], .bool a2, .int .i64 a3] w fun e w' => ∃ zS : Value, e = .returned (.agg #[.int .i64 r1, .int .i64 r2, zS]) ∧ Kd.R (Kd.int .i64) 22 w' w0.heap.size (fun k_ => (uf k_ ∨ w.heap.size ≤ k_)) zS r3 ∧ aK w0 w' g r4 ∧ Below w0.heap.size w0 w' ∧ Kept w w' (fun k_ => (uf k_) ∨ k_ = g) := by
 have Cc := Tryz.underlying29; have pX := aj.mk (show Kd.R (Kd.int .i64) 22 w w0.heap.size (fun k_ => (uf k_ ∨ w.heap.size ≤ k_)) LH bK from Kd.jc aaZ (fun k_ hk => (.inl hk))); have HI0 := aj.mk hI; have HL := aj.mk hB.size; clear hI; have HK := aj.mk (Kept.refl w (fun k_ => (uf k_) ∨ k_ = g)); have HW0 := aj.mk hB.size; have HB := aj.mk hB; clear hB; have H : (if oQ = true then (some (bV, bW, bK, true)) else (some (bV, bW, bK, a2))) = some (r1, r2, r3, r4) := h; clear h
 by_cases c5 : oQ = true
 · subst c5
   rw [if_pos rfl] at H; simp only [Option.some.injEq, Prod.mk.injEq] at H; obtain ⟨rfl, rfl, rfl, rfl⟩ := H; obtain ⟨Ao6, Zo, eo6⟩ := Kd.je pX.out; subst eo6
   go_enter Tryz.func151, Tryz.ntmps151
   go_wp2_with (first | ((with_reducible refine dH (N := 5) rfl ?_); refine dw ?hg (N := 5) ?hd (cs := #[.int .i64 bV, .int .i64 bW, .slice Ao6 bK.length Zo]) (t := 29) ?hr ?_; (case hd => rfl); (case hg => rfl); (case hr => first | (go_simp; done) | (go_simp; rfl)); intro kS hg w7 hbox hb; have bJ := aj.mk (Kd.oI (by (with_reducible repeat (first | apply Kd.dO | apply Kd.dN | apply Kd.eG)); exact pX.out) hb); have dP := aj.mk (aK.below (by repeat (first | (with_reducible first | exact HI0.out | apply aK.alloc | apply aK.drewN | apply aK.drew | apply aK.jD) | exact HI0.out)) hb); have dY := aj.mk (Kept.below (S := (fun k_ => (uf k_) ∨ k_ = g)) (by repeat (first | (with_reducible first | exact HK.out | apply Kept.alloc | apply Kept.drewN | apply Kept.drew | refine Kept.setCell ?_ (.inl (.inr rfl)) _) | exact HK.out)) hb); have fH := aj.mk (aV (by repeat (first | (with_reducible first | exact HB.out | apply ak | apply ah | apply au | refine aG ?_ (aK.ge HI0.out)) | exact HB.out)) hb); have jM := aj.mk (hbox); have kQ := aj.mk ((by rw [hg]; exact (by first | exact HK.out.1 | exact (show Kept w _ (fun k_ => (uf k_) ∨ k_ = g) from by repeat (first | (with_reducible first | exact HK.out | apply Kept.alloc | apply Kept.drewN | apply Kept.drew | refine Kept.setCell ?_ (.inl (.inr rfl)) _) | exact HK.out)).1) : w.heap.size ≤ kS)); have kY := aj.mk ((by rw [hg]; exact (bg (by repeat (first | (with_reducible first | exact HB.out | apply ak | apply ah | apply au | refine aG ?_ (aK.ge HI0.out)) | exact HB.out))) : w0.heap.size ≤ kS)); have uV := aj.mk ((by rw [hg]; exact Nat.ne_of_lt (aK.lt (show aK w0 _ g true from by repeat (first | (with_reducible first | exact HI0.out | apply aK.alloc | apply aK.drewN | apply aK.drew | apply aK.jD) | exact HI0.out))) : g ≠ kS)); have Bo := aj.mk ((by rw [hg]; exact Nat.ne_of_gt (aK.lt (show aK w0 _ g true from by repeat (first | (with_reducible first | exact HI0.out | apply aK.alloc | apply aK.drewN | apply aK.drew | apply aK.jD) | exact HI0.out))) : kS ≠ g)); clear pX; clear HI0; clear HK; clear HB; have pX := bJ; have HI0 := dP; have HK := dY; have HB := fH; have lU := jM; have ET := kQ; have EZ := kY; have oJ := uV; have Js := Bo; clear bJ dP dY fH jM kQ kY uV Bo; clear hb hbox hg) | ((with_reducible refine dH (N := 8) rfl ?_); refine dw ?hg (N := 8) ?hd (cs := #[.int .i64 0, .int .i64 0, .slice none 0 0]) (t := 29) ?hr ?_; (case hd => rfl); (case hg => rfl); (case hr => first | (go_simp; done) | (go_simp; rfl)); intro ku hg w8 hbox hb; have bJ := aj.mk (Kd.oI (by (with_reducible repeat (first | apply Kd.dO | apply Kd.dN | apply Kd.eG)); exact pX.out) hb); have dP := aj.mk (aK.below (by repeat (first | (with_reducible first | exact HI0.out | apply aK.alloc | apply aK.drewN | apply aK.drew | apply aK.jD | refine aK.far ?_ oJ.out _) | exact HI0.out)) hb); have dY := aj.mk (bH (g := kS) (o := .cells #[.int .i64 bV, .int .i64 bW, .slice Ao6 bK.length Zo] 29 (0, 0)) (by (with_reducible repeat (first | refine aA ?_ _ | refine aH ?_ | refine aC ?_ _)); exact lU.out) hb); have fH := aj.mk (Kept.below (S := (fun k_ => (uf k_) ∨ k_ = g)) (by repeat (first | (with_reducible first | exact HK.out | apply Kept.alloc | apply Kept.drewN | apply Kept.drew | refine Kept.setCell ?_ (.inl (.inr rfl)) _ | refine Kept.setCell ?_ (.inr ET.out) _) | exact HK.out)) hb); have jM := aj.mk (aV (by repeat (first | (with_reducible first | exact HB.out | apply ak | apply ah | apply au | refine aG ?_ (aK.ge HI0.out) | refine aG ?_ EZ.out) | exact HB.out)) hb); have kQ := aj.mk (hbox); have kY := aj.mk ((by rw [hg]; exact (by first | exact HK.out.1 | exact (show Kept w _ (fun k_ => (uf k_) ∨ k_ = g) from by repeat (first | (with_reducible first | exact HK.out | apply Kept.alloc | apply Kept.drewN | apply Kept.drew | refine Kept.setCell ?_ (.inl (.inr rfl)) _ | refine Kept.setCell ?_ (.inr ET.out) _) | exact HK.out)).1) : w.heap.size ≤ ku)); have uV := aj.mk ((by rw [hg]; exact (bg (by repeat (first | (with_reducible first | exact HB.out | apply ak | apply ah | apply au | refine aG ?_ (aK.ge HI0.out) | refine aG ?_ EZ.out) | exact HB.out))) : w0.heap.size ≤ ku)); have Bo := aj.mk ((by rw [hg]; exact Nat.ne_of_lt (fB (g := kS) (o := .cells #[.int .i64 bV, .int .i64 bW, .slice Ao6 bK.length Zo] 29 (0, 0)) (by (with_reducible repeat (first | refine aA ?_ _ | refine aH ?_ | refine aC ?_ _)); exact lU.out)) : kS ≠ ku)); have OL := aj.mk ((by rw [hg]; exact Nat.ne_of_gt (fB (g := kS) (o := .cells #[.int .i64 bV, .int .i64 bW, .slice Ao6 bK.length Zo] 29 (0, 0)) (by (with_reducible repeat (first | refine aA ?_ _ | refine aH ?_ | refine aC ?_ _)); exact lU.out)) : ku ≠ kS)); have yY := aj.mk ((by rw [hg]; exact Nat.ne_of_lt (aK.lt (show aK w0 _ g true from by repeat (first | (with_reducible first | exact HI0.out | apply aK.alloc | apply aK.drewN | apply aK.drew | apply aK.jD | refine aK.far ?_ oJ.out _) | exact HI0.out))) : g ≠ ku)); have JV := aj.mk ((by rw [hg]; exact Nat.ne_of_gt (aK.lt (show aK w0 _ g true from by repeat (first | (with_reducible first | exact HI0.out | apply aK.alloc | apply aK.drewN | apply aK.drew | apply aK.jD | refine aK.far ?_ oJ.out _) | exact HI0.out))) : ku ≠ g)); clear pX; clear HI0; clear lU; clear HK; clear HB; have pX := bJ; have HI0 := dP; have lU := dY; have HK := fH; have HB := jM; have pM := kQ; have Ve := kY; have Vg := uV; have Bi := Bo; have Bh := OL; have zN := yY; have zM := JV; clear bJ dP dY fH jM kQ kY uV Bo OL yY JV; clear hb hbox hg; obtain ⟨Z7, agY⟩ := HI0.out; have pW := Ew Z7; have pV := ay Z7 0; clear Z7 agY; have XQ := Bi.out; have XM := Bh.out; have XO := Js.out; have XL := oJ.out; have qm : w8.cell? ⟨kS, 0, none⟩ = some (.int .i64 bV) := (az lU.out 0).trans rfl; have ql : w8.cell? ⟨kS, 1, none⟩ = some (.int .i64 bW) := (az lU.out 1).trans rfl; have qj : w8.cell? ⟨kS, 2, none⟩ = some (.slice Ao6 bK.length Zo) := (az lU.out 2).trans rfl; have qi := ay lU.out 0; have qh := ay lU.out 1; have qg := ay lU.out 2; have aa5 := zM.out; have aa2 := zN.out; have PI : w8.cell? ⟨ku, 0, none⟩ = some (.int .i64 0) := (az pM.out 0).trans rfl; have PE : w8.cell? ⟨ku, 1, none⟩ = some (.int .i64 0) := (az pM.out 1).trans rfl; have PD : w8.cell? ⟨ku, 2, none⟩ = some (.slice none 0 0) := (az pM.out 2).trans rfl; have Pm := ay pM.out 0; have Pj := ay pM.out 1; have Ph := ay pM.out 2))
   refine bodyPost_ret (results_cell_row rfl _ _ ku 29 #[.int .i64 bV, .int .i64 bW, .slice Ao6 bK.length Zo] (0, 0) _ rfl (by (with_reducible repeat (first | refine aA ?_ _ | refine aH ?_ | refine aC ?_ _)); refine bM (cs := #[.int .i64 bV, .int .i64 bW, .slice none 0 0]) ?_ 2 _ rfl; (with_reducible repeat (first | refine aA ?_ _ | refine aH ?_ | refine aC ?_ _)); refine bM (cs := #[.int .i64 bV, .int .i64 0, .slice none 0 0]) ?_ 1 _ rfl; (with_reducible repeat (first | refine aA ?_ _ | refine aH ?_ | refine aC ?_ _)); refine bM (cs := #[.int .i64 0, .int .i64 0, .slice none 0 0]) ?_ 0 _ rfl; (with_reducible repeat (first | refine aA ?_ _ | refine aH ?_ | refine aC ?_ _)); refine iw ?_ zM.out _; (with_reducible repeat (first | refine aA ?_ _ | refine aH ?_ | refine aC ?_ _)); exact pM.out) Tryz.underlying29 rfl (by kernel_rfl)) rfl ?_
   exact ⟨_, by first | rfl | (simp [aQ, aN] <;> rfl) | (simp [*, aQ, aN] <;> rfl), by (with_reducible repeat (first | apply Kd.dO | apply Kd.dN | apply Kd.eG)); exact Kd.jc (Kd.gI (p := ⟨ku, 2, none⟩) (Kd.gI (p := ⟨ku, 1, none⟩) (Kd.gI (p := ⟨ku, 0, none⟩) (Kd.gI (p := ⟨g, 0, none⟩) (Kd.l_ (aK.apart HI0.out pX.out (by decide)) pM.out (by decide)) (fun _ hk => hk.1.2) (.bool true)) (fun _ hk => hk.2) (.int .i64 bV)) (fun _ hk => hk.2) (.int .i64 bW)) (fun _ hk => hk.2) (.slice Ao6 bK.length Zo)) (fun _ hk => hk.1.1), by repeat (first | (with_reducible first | exact HI0.out | apply aK.alloc | apply aK.drewN | apply aK.drew | apply aK.jD | refine aK.far ?_ oJ.out _ | refine aK.far ?_ zN.out _) | exact HI0.out), by repeat (first | (with_reducible first | exact HB.out | apply ak | apply ah | apply au | refine aG ?_ (aK.ge HI0.out) | refine aG ?_ EZ.out | refine aG ?_ Vg.out) | exact HB.out), by repeat (first | (with_reducible first | exact HK.out | apply Kept.alloc | apply Kept.drewN | apply Kept.drew | refine Kept.setCell ?_ (.inl (.inr rfl)) _ | refine Kept.setCell ?_ (.inr ET.out) _ | refine Kept.setCell ?_ (.inr Ve.out) _) | exact HK.out)⟩
 · replace c5 := Bool.eq_false_iff.mpr c5
   subst c5
   have H1 : (some (bV, bW, bK, a2)) = some (r1, r2, r3, r4) := by rw [if_neg (show ¬ (false = true) by decide)] at H; exact H
   clear H; have H := H1; clear H1; simp only [Option.some.injEq, Prod.mk.injEq] at H; obtain ⟨rfl, rfl, rfl, rfl⟩ := H; obtain ⟨Om, NV, ahq⟩ := Kd.je pX.out; subst ahq
   go_enter Tryz.func151, Tryz.ntmps151
   go_wp2_with (first | ((with_reducible refine dH (N := 5) rfl ?_); refine dw ?hg (N := 5) ?hd (cs := #[.int .i64 bV, .int .i64 bW, .slice Om bK.length NV]) (t := 29) ?hr ?_; (case hd => rfl); (case hg => rfl); (case hr => first | (go_simp; done) | (go_simp; rfl)); intro kS hg w16 hbox hb; have bJ := aj.mk (Kd.oI (by (with_reducible repeat (first | apply Kd.dO | apply Kd.dN | apply Kd.eG)); exact pX.out) hb); have dP := aj.mk (aK.below (by repeat (first | (with_reducible first | exact HI0.out | apply aK.alloc | apply aK.drewN | apply aK.drew | apply aK.jD) | exact HI0.out)) hb); have dY := aj.mk (Kept.below (S := (fun k_ => (uf k_) ∨ k_ = g)) (by repeat (first | (with_reducible first | exact HK.out | apply Kept.alloc | apply Kept.drewN | apply Kept.drew | refine Kept.setCell ?_ (.inl (.inr rfl)) _) | exact HK.out)) hb); have fH := aj.mk (aV (by repeat (first | (with_reducible first | exact HB.out | apply ak | apply ah | apply au | refine aG ?_ (aK.ge HI0.out)) | exact HB.out)) hb); have jM := aj.mk (hbox); have kQ := aj.mk ((by rw [hg]; exact (by first | exact HK.out.1 | exact (show Kept w _ (fun k_ => (uf k_) ∨ k_ = g) from by repeat (first | (with_reducible first | exact HK.out | apply Kept.alloc | apply Kept.drewN | apply Kept.drew | refine Kept.setCell ?_ (.inl (.inr rfl)) _) | exact HK.out)).1) : w.heap.size ≤ kS)); have kY := aj.mk ((by rw [hg]; exact (bg (by repeat (first | (with_reducible first | exact HB.out | apply ak | apply ah | apply au | refine aG ?_ (aK.ge HI0.out)) | exact HB.out))) : w0.heap.size ≤ kS)); have uV := aj.mk ((by rw [hg]; exact Nat.ne_of_lt (aK.lt (show aK w0 _ g false from by repeat (first | (with_reducible first | exact HI0.out | apply aK.alloc | apply aK.drewN | apply aK.drew | apply aK.jD) | exact HI0.out))) : g ≠ kS)); have Bo := aj.mk ((by rw [hg]; exact Nat.ne_of_gt (aK.lt (show aK w0 _ g false from by repeat (first | (with_reducible first | exact HI0.out | apply aK.alloc | apply aK.drewN | apply aK.drew | apply aK.jD) | exact HI0.out))) : kS ≠ g)); clear pX; clear HI0; clear HK; clear HB; have pX := bJ; have HI0 := dP; have HK := dY; have HB := fH; have lU := jM; have ET := kQ; have EZ := kY; have oJ := uV; have Js := Bo; clear bJ dP dY fH jM kQ kY uV Bo; clear hb hbox hg) | ((with_reducible refine dH (N := 8) rfl ?_); refine dw ?hg (N := 8) ?hd (cs := #[.int .i64 0, .int .i64 0, .slice none 0 0]) (t := 29) ?hr ?_; (case hd => rfl); (case hg => rfl); (case hr => first | (go_simp; done) | (go_simp; rfl)); intro ku hg w17 hbox hb; have bJ := aj.mk (Kd.oI (by (with_reducible repeat (first | apply Kd.dO | apply Kd.dN | apply Kd.eG)); exact pX.out) hb); have dP := aj.mk (aK.below (by repeat (first | (with_reducible first | exact HI0.out | apply aK.alloc | apply aK.drewN | apply aK.drew | apply aK.jD | refine aK.far ?_ oJ.out _) | exact HI0.out)) hb); have dY := aj.mk (bH (g := kS) (o := .cells #[.int .i64 bV, .int .i64 bW, .slice Om bK.length NV] 29 (0, 0)) (by (with_reducible repeat (first | refine aA ?_ _ | refine aH ?_ | refine aC ?_ _)); exact lU.out) hb); have fH := aj.mk (Kept.below (S := (fun k_ => (uf k_) ∨ k_ = g)) (by repeat (first | (with_reducible first | exact HK.out | apply Kept.alloc | apply Kept.drewN | apply Kept.drew | refine Kept.setCell ?_ (.inl (.inr rfl)) _ | refine Kept.setCell ?_ (.inr ET.out) _) | exact HK.out)) hb); have jM := aj.mk (aV (by repeat (first | (with_reducible first | exact HB.out | apply ak | apply ah | apply au | refine aG ?_ (aK.ge HI0.out) | refine aG ?_ EZ.out) | exact HB.out)) hb); have kQ := aj.mk (hbox); have kY := aj.mk ((by rw [hg]; exact (by first | exact HK.out.1 | exact (show Kept w _ (fun k_ => (uf k_) ∨ k_ = g) from by repeat (first | (with_reducible first | exact HK.out | apply Kept.alloc | apply Kept.drewN | apply Kept.drew | refine Kept.setCell ?_ (.inl (.inr rfl)) _ | refine Kept.setCell ?_ (.inr ET.out) _) | exact HK.out)).1) : w.heap.size ≤ ku)); have uV := aj.mk ((by rw [hg]; exact (bg (by repeat (first | (with_reducible first | exact HB.out | apply ak | apply ah | apply au | refine aG ?_ (aK.ge HI0.out) | refine aG ?_ EZ.out) | exact HB.out))) : w0.heap.size ≤ ku)); have Bo := aj.mk ((by rw [hg]; exact Nat.ne_of_lt (fB (g := kS) (o := .cells #[.int .i64 bV, .int .i64 bW, .slice Om bK.length NV] 29 (0, 0)) (by (with_reducible repeat (first | refine aA ?_ _ | refine aH ?_ | refine aC ?_ _)); exact lU.out)) : kS ≠ ku)); have OL := aj.mk ((by rw [hg]; exact Nat.ne_of_gt (fB (g := kS) (o := .cells #[.int .i64 bV, .int .i64 bW, .slice Om bK.length NV] 29 (0, 0)) (by (with_reducible repeat (first | refine aA ?_ _ | refine aH ?_ | refine aC ?_ _)); exact lU.out)) : ku ≠ kS)); have yY := aj.mk ((by rw [hg]; exact Nat.ne_of_lt (aK.lt (show aK w0 _ g false from by repeat (first | (with_reducible first | exact HI0.out | apply aK.alloc | apply aK.drewN | apply aK.drew | apply aK.jD | refine aK.far ?_ oJ.out _) | exact HI0.out))) : g ≠ ku)); have JV := aj.mk ((by rw [hg]; exact Nat.ne_of_gt (aK.lt (show aK w0 _ g false from by repeat (first | (with_reducible first | exact HI0.out | apply aK.alloc | apply aK.drewN | apply aK.drew | apply aK.jD | refine aK.far ?_ oJ.out _) | exact HI0.out))) : ku ≠ g)); clear pX; clear HI0; clear lU; clear HK; clear HB; have pX := bJ; have HI0 := dP; have lU := dY; have HK := fH; have HB := jM; have pM := kQ; have Ve := kY; have Vg := uV; have Bi := Bo; have Bh := OL; have zN := yY; have zM := JV; clear bJ dP dY fH jM kQ kY uV Bo OL yY JV; clear hb hbox hg; obtain ⟨Vb, aa8⟩ := HI0.out; have Pz := Ew Vb; have Pg := ay Vb 0; clear Vb aa8; have ai6 := Bi.out; have aiY := Bh.out; have ai5 := Js.out; have aiX := oJ.out; have afg : w17.cell? ⟨kS, 0, none⟩ = some (.int .i64 bV) := (az lU.out 0).trans rfl; have aff : w17.cell? ⟨kS, 1, none⟩ = some (.int .i64 bW) := (az lU.out 1).trans rfl; have afe : w17.cell? ⟨kS, 2, none⟩ = some (.slice Om bK.length NV) := (az lU.out 2).trans rfl; have aeB := ay lU.out 0; have aeA := ay lU.out 1; have aez := ay lU.out 2; have XN := zM.out; have XK := zN.out; have WE : w17.cell? ⟨ku, 0, none⟩ = some (.int .i64 0) := (az pM.out 0).trans rfl; have WC : w17.cell? ⟨ku, 1, none⟩ = some (.int .i64 0) := (az pM.out 1).trans rfl; have WB : w17.cell? ⟨ku, 2, none⟩ = some (.slice none 0 0) := (az pM.out 2).trans rfl; have V5 := ay pM.out 0; have VZ := ay pM.out 1; have VY := ay pM.out 2))
   refine bodyPost_ret (results_cell_row rfl _ _ ku 29 #[.int .i64 bV, .int .i64 bW, .slice Om bK.length NV] (0, 0) _ rfl (by (with_reducible repeat (first | refine aA ?_ _ | refine aH ?_ | refine aC ?_ _)); refine bM (cs := #[.int .i64 bV, .int .i64 bW, .slice none 0 0]) ?_ 2 _ rfl; (with_reducible repeat (first | refine aA ?_ _ | refine aH ?_ | refine aC ?_ _)); refine bM (cs := #[.int .i64 bV, .int .i64 0, .slice none 0 0]) ?_ 1 _ rfl; (with_reducible repeat (first | refine aA ?_ _ | refine aH ?_ | refine aC ?_ _)); refine bM (cs := #[.int .i64 0, .int .i64 0, .slice none 0 0]) ?_ 0 _ rfl; (with_reducible repeat (first | refine aA ?_ _ | refine aH ?_ | refine aC ?_ _)); refine iw ?_ zM.out _; (with_reducible repeat (first | refine aA ?_ _ | refine aH ?_ | refine aC ?_ _)); exact pM.out) Tryz.underlying29 rfl (by kernel_rfl)) rfl ?_
   exact ⟨_, by first | rfl | (simp [aQ, aN] <;> rfl) | (simp [*, aQ, aN] <;> rfl), by (with_reducible repeat (first | apply Kd.dO | apply Kd.dN | apply Kd.eG)); exact Kd.jc (Kd.gI (p := ⟨ku, 2, none⟩) (Kd.gI (p := ⟨ku, 1, none⟩) (Kd.gI (p := ⟨ku, 0, none⟩) (Kd.gI (p := ⟨g, 0, none⟩) (Kd.l_ (aK.apart HI0.out pX.out (by decide)) pM.out (by decide)) (fun _ hk => hk.1.2) (.bool a2)) (fun _ hk => hk.2) (.int .i64 bV)) (fun _ hk => hk.2) (.int .i64 bW)) (fun _ hk => hk.2) (.slice Om bK.length NV)) (fun _ hk => hk.1.1), by repeat (first | (with_reducible first | exact HI0.out | apply aK.alloc | apply aK.drewN | apply aK.drew | apply aK.jD | refine aK.far ?_ oJ.out _ | refine aK.far ?_ zN.out _) | exact HI0.out), by repeat (first | (with_reducible first | exact HB.out | apply ak | apply ah | apply au | refine aG ?_ (aK.ge HI0.out) | refine aG ?_ EZ.out | refine aG ?_ Vg.out) | exact HB.out), by repeat (first | (with_reducible first | exact HK.out | apply Kept.alloc | apply Kept.drewN | apply Kept.drew | refine Kept.setCell ?_ (.inl (.inr rfl)) _ | refine Kept.setCell ?_ (.inr ET.out) _ | refine Kept.setCell ?_ (.inr Ve.out) _) | exact HK.out)⟩
def cO.f (oQ : Bool) (bV : Int) (bW : Int) (bK : List Int) (nR : Int) (nP : Int) (lZ : List Int) : Option (Int × Int × List Int × Bool) := (jQ.f bV bW bK nR nP lZ).bind fun wF => ((dX.f oQ wF.1 wF.2.1 wF.2.2.1 wF.2.2.2.1 wF.2.2.2.2).bind fun sH => ((kU.f bV bW bK).bind fun ry => ((jQ.f sH.1 sH.2.1 sH.2.2.1 ry.1 ry.2.1 ry.2.2).bind fun jG => ((dX.f sH.2.2.2 jG.1 jG.2.1 jG.2.2.1 jG.2.2.2.1 jG.2.2.2.2).bind fun jF => (some (jF.1, jF.2.1, jF.2.2.1, jF.2.2.2))))))
def cO.T1 : Bool × List (List Nat × List Nat) := (true, [([], []), ([], []), ([], []), ([], []), ([2, 3], [2, 3]), ([4], [4]), ([4], [4]), ([4], [4]), ([1, 5, 6, 7, 4], [1, 5, 6, 7]), ([], []), ([9, 8], [9]), ([8, 10, 10], [8, 10]), ([11], [11]), ([11], [11]), ([11], [11]), ([0, 12, 13, 14, 11], [0, 12, 13, 14]), ([15, 15, 0, 1, 2, 3, 4, 5, 6, 7, 8, 9, 10, 11, 12, 13, 14, 15], [15])])
def cO.B1 : List Nat := [0, 0, 0, 0, 12, 28, 28, 28, 254, 0, 1022, 2046, 4094, 4094, 4094, 32767, 65535]
theorem cO.Vp : pO .any (opsOf Tryz.f154 1) = cO.T1 := by kernel_rfl
theorem cO.PV : qc cO.T1.2 cO.B1 = true := by kernel_rfl
theorem cO.calls (g : Nat) (oQ : Bool) (bV : Int) (bW : Int) (fV : Option Addr) (f_ : Nat) (bK : List Int) (nR : Int) (nP : Int) (tH : Option Addr) (uN : Nat) (lZ : List Int) (r1 : Int) (r2 : Int) (r3 : List Int) (r4 : Bool) (w0 w : World) (hI : aK w0 w g oQ) (hB : Below w0.heap.size w0 w) (nY : Kd.C (Kd.int .i64) w fV bK.length bK) (oM : bK.length ≤ f_) (Ky : ∀ ad, fV = some ad → 0 < bK.length → ad.block ≠ g) (J_ : Kd.C (Kd.int .i64) w tH lZ.length lZ) (Kz : lZ.length ≤ uN) (Kw : ∀ ad, tH = some ad → 0 < lZ.length → ad.block ≠ g) (h : cO.f oQ bV bW bK nR nP lZ = some (r1, r2, r3, r4)) :
 Calls Tryz.prog 154 #[.pointer (some ⟨g, 0, none⟩), .agg #[.int .i64 bV, .int .i64 bW, .slice fV bK.length f_], .agg #[.int .i64 nR, .int .i64 nP, .slice tH lZ.length uN]] w fun e w' => ∃ zS : Value, e = .returned (.agg #[.int .i64 r1, .int .i64 r2, zS]) ∧ Kd.R (Kd.int .i64) 22 w' w.heap.size (fun _ => True) zS r3 ∧ aK w0 w' g r4 ∧ Below w0.heap.size w0 w' ∧ bP w w' g none := by
 have Cc := Tryz.underlying29; have uj := aj.mk nY; have wL := aj.mk oM; clear nY oM; have acT := aj.mk J_; have ac4 := aj.mk Kz; clear J_ Kz; have HI0 := aj.mk hI; have HK := aj.mk (bP.refl w g none); have HL := aj.mk hB.size; clear hI; have HW0 := aj.mk hB.size; have HB := aj.mk hB; clear hB; have H : ((jQ.f bV bW bK nR nP lZ).bind fun wF => ((dX.f oQ wF.1 wF.2.1 wF.2.2.1 wF.2.2.2.1 wF.2.2.2.2).bind fun sH => ((kU.f bV bW bK).bind fun ry => ((jQ.f sH.1 sH.2.1 sH.2.2.1 ry.1 ry.2.1 ry.2.2).bind fun jG => ((dX.f sH.2.2.2 jG.1 jG.2.1 jG.2.2.1 jG.2.2.2.1 jG.2.2.2.2).bind fun jF => (some (jF.1, jF.2.1, jF.2.2.1, jF.2.2.2))))))) = some (r1, r2, r3, r4) := h; clear h; replace H := Option.bind_eq_some_iff.mp H; obtain ⟨⟨t106, t107, t108, t111, t112⟩, Lm, H⟩ := H; replace H : ((dX.f oQ t106 t107 t108 t111 t112).bind fun sH => ((kU.f bV bW bK).bind fun ry => ((jQ.f sH.1 sH.2.1 sH.2.2.1 ry.1 ry.2.1 ry.2.2).bind fun jG => ((dX.f sH.2.2.2 jG.1 jG.2.1 jG.2.2.1 jG.2.2.2.1 jG.2.2.2.2).bind fun jF => (some (jF.1, jF.2.1, jF.2.2.1, jF.2.2.2)))))) = some (r1, r2, r3, r4) := H; have A4 := aj.mk Lm; clear Lm; replace H := Option.bind_eq_some_iff.mp H; obtain ⟨⟨t113, t114, t115, t118⟩, Yl, H⟩ := H; replace H : ((kU.f bV bW bK).bind fun ry => ((jQ.f t113 t114 t115 ry.1 ry.2.1 ry.2.2).bind fun jG => ((dX.f t118 jG.1 jG.2.1 jG.2.2.1 jG.2.2.2.1 jG.2.2.2.2).bind fun jF => (some (jF.1, jF.2.1, jF.2.2.1, jF.2.2.2))))) = some (r1, r2, r3, r4) := H; have A5 := aj.mk Yl; clear Yl; replace H := Option.bind_eq_some_iff.mp H; obtain ⟨⟨t119, t120, t121⟩, Yk, H⟩ := H; replace H : ((jQ.f t113 t114 t115 t119 t120 t121).bind fun jG => ((dX.f t118 jG.1 jG.2.1 jG.2.2.1 jG.2.2.2.1 jG.2.2.2.2).bind fun jF => (some (jF.1, jF.2.1, jF.2.2.1, jF.2.2.2)))) = some (r1, r2, r3, r4) := H; have A6 := aj.mk Yk; clear Yk; replace H := Option.bind_eq_some_iff.mp H; obtain ⟨⟨t124, t125, t126, t129, t130⟩, Yj, H⟩ := H; replace H : ((dX.f t118 t124 t125 t126 t129 t130).bind fun jF => (some (jF.1, jF.2.1, jF.2.2.1, jF.2.2.2))) = some (r1, r2, r3, r4) := H; have A7 := aj.mk Yj; clear Yj; replace H := Option.bind_eq_some_iff.mp H; obtain ⟨⟨t131, t132, t133, t136⟩, A80, H⟩ := H; replace H : (some (t131, t132, t133, t136)) = some (r1, r2, r3, r4) := H; have A8 := aj.mk A80; clear A80; simp only [Option.some.injEq, Prod.mk.injEq] at H; obtain ⟨rfl, rfl, rfl, rfl⟩ := H
 go_enter Tryz.func154, Tryz.ntmps154
 try go_wp2_with (first | ((with_reducible refine dH (N := 4) rfl ?_); refine dw ?hg (N := 4) ?hd (cs := #[.int .i64 bV, .int .i64 bW, .slice fV bK.length f_]) (t := 29) ?hr ?_; (case hd => rfl); (case hg => rfl); (case hr => first | (go_simp; done) | (go_simp; rfl)); intro mP hg w9 hbox hb; have bJ := aj.mk (aK.below (by repeat (first | (with_reducible first | exact HI0.out | apply aK.alloc | apply aK.drewN | apply aK.drew | apply aK.jD) | exact HI0.out)) hb); have dP := aj.mk (bP.trans (by repeat (first | (with_reducible first | exact HK.out | apply bP.qI | apply eu | apply fC | apply eF) | exact HK.out)) (bP.of_below hb g none) (.inl rfl)); have dY := aj.mk (aV (by repeat (first | (with_reducible first | exact HB.out | apply ak | apply ah | apply au | refine aG ?_ (aK.ge HI0.out)) | exact HB.out)) hb); have fH := aj.mk (hbox); have jM := aj.mk ((by rw [hg]; exact (jX (w := w) (g := g) (row := none) (by repeat (first | (with_reducible first | exact HK.out | apply bP.qI | apply eu | apply fC | apply eF) | exact HK.out))) : w.heap.size ≤ mP)); have kQ := aj.mk ((Nat.le_trans HW0.out (by rw [hg]; exact (jX (w := w) (g := g) (row := none) (by repeat (first | (with_reducible first | exact HK.out | apply bP.qI | apply eu | apply fC | apply eF) | exact HK.out))) : w.heap.size ≤ mP) : w0.heap.size ≤ mP)); have kY := aj.mk ((by rw [hg]; exact Nat.ne_of_lt (aK.lt (show aK w0 _ g oQ from by repeat (first | (with_reducible first | exact HI0.out | apply aK.alloc | apply aK.drewN | apply aK.drew | apply aK.jD) | exact HI0.out))) : g ≠ mP)); have uV := aj.mk ((by rw [hg]; exact Nat.ne_of_gt (aK.lt (show aK w0 _ g oQ from by repeat (first | (with_reducible first | exact HI0.out | apply aK.alloc | apply aK.drewN | apply aK.drew | apply aK.jD) | exact HI0.out))) : mP ≠ g)); clear HI0; clear HK; clear HB; have HI0 := bJ; have HK := dP; have HB := dY; have gp := fH; have nM := jM; have BU := kQ; have mZ := kY; have Qi := uV; clear bJ dP dY fH jM kQ kY uV; clear hb hbox hg) | ((with_reducible refine dH (N := 5) rfl ?_); refine dw ?hg (N := 5) ?hd (cs := #[.int .i64 nR, .int .i64 nP, .slice tH lZ.length uN]) (t := 29) ?hr ?_; (case hd => rfl); (case hg => rfl); (case hr => first | (go_simp; done) | (go_simp; rfl)); intro oO hg w10 hbox hb; have bJ := aj.mk (aK.below (by repeat (first | (with_reducible first | exact HI0.out | apply aK.alloc | apply aK.drewN | apply aK.drew | apply aK.jD | refine aK.far ?_ mZ.out _) | exact HI0.out)) hb); have dP := aj.mk (bH (g := mP) (o := .cells #[.int .i64 bV, .int .i64 bW, .slice fV bK.length f_] 29 (0, 0)) (by (with_reducible repeat (first | refine aA ?_ _ | refine aH ?_ | refine aC ?_ _)); exact gp.out) hb); have dY := aj.mk (bP.trans (by repeat (first | (with_reducible first | exact HK.out | apply bP.qI | apply eu | apply fC | apply eF | refine bU ?_ nM.out _) | exact HK.out)) (bP.of_below hb g none) (.inl rfl)); have fH := aj.mk (aV (by repeat (first | (with_reducible first | exact HB.out | apply ak | apply ah | apply au | refine aG ?_ (aK.ge HI0.out) | refine aG ?_ BU.out) | exact HB.out)) hb); have jM := aj.mk (hbox); have kQ := aj.mk ((by rw [hg]; exact (jX (w := w) (g := g) (row := none) (by repeat (first | (with_reducible first | exact HK.out | apply bP.qI | apply eu | apply fC | apply eF | refine bU ?_ nM.out _) | exact HK.out))) : w.heap.size ≤ oO)); have kY := aj.mk ((Nat.le_trans HW0.out (by rw [hg]; exact (jX (w := w) (g := g) (row := none) (by repeat (first | (with_reducible first | exact HK.out | apply bP.qI | apply eu | apply fC | apply eF | refine bU ?_ nM.out _) | exact HK.out))) : w.heap.size ≤ oO) : w0.heap.size ≤ oO)); have uV := aj.mk ((by rw [hg]; exact Nat.ne_of_lt (fB (g := mP) (o := .cells #[.int .i64 bV, .int .i64 bW, .slice fV bK.length f_] 29 (0, 0)) (by (with_reducible repeat (first | refine aA ?_ _ | refine aH ?_ | refine aC ?_ _)); exact gp.out)) : mP ≠ oO)); have Bo := aj.mk ((by rw [hg]; exact Nat.ne_of_gt (fB (g := mP) (o := .cells #[.int .i64 bV, .int .i64 bW, .slice fV bK.length f_] 29 (0, 0)) (by (with_reducible repeat (first | refine aA ?_ _ | refine aH ?_ | refine aC ?_ _)); exact gp.out)) : oO ≠ mP)); have OL := aj.mk ((by rw [hg]; exact Nat.ne_of_lt (aK.lt (show aK w0 _ g oQ from by repeat (first | (with_reducible first | exact HI0.out | apply aK.alloc | apply aK.drewN | apply aK.drew | apply aK.jD | refine aK.far ?_ mZ.out _) | exact HI0.out))) : g ≠ oO)); have yY := aj.mk ((by rw [hg]; exact Nat.ne_of_gt (aK.lt (show aK w0 _ g oQ from by repeat (first | (with_reducible first | exact HI0.out | apply aK.alloc | apply aK.drewN | apply aK.drew | apply aK.jD | refine aK.far ?_ mZ.out _) | exact HI0.out))) : oO ≠ g)); clear HI0; clear gp; clear HK; clear HB; have HI0 := bJ; have gp := dP; have HK := dY; have HB := fH; have gK := jM; have pK := kQ; have EY := kY; have aas := uV; have aar := Bo; have qy := OL; have Qh := yY; clear bJ dP dY fH jM kQ kY uV Bo OL yY; clear hb hbox hg) | ((with_reducible refine dH (N := 6) rfl ?_); refine dw ?hg (N := 6) ?hd (cs := #[.int .i64 0, .int .i64 0, .slice none 0 0]) (t := 29) ?hr ?_; (case hd => rfl); (case hg => rfl); (case hr => first | (go_simp; done) | (go_simp; rfl)); intro iJ hg BX hbox hb; have bJ := aj.mk (aK.below (by repeat (first | (with_reducible first | exact HI0.out | apply aK.alloc | apply aK.drewN | apply aK.drew | apply aK.jD | refine aK.far ?_ mZ.out _ | refine aK.far ?_ qy.out _) | exact HI0.out)) hb); have dP := aj.mk (bH (g := mP) (o := .cells #[.int .i64 bV, .int .i64 bW, .slice fV bK.length f_] 29 (0, 0)) (by (with_reducible repeat (first | refine aA ?_ _ | refine aH ?_ | refine aC ?_ _)); exact gp.out) hb); have dY := aj.mk (bH (g := oO) (o := .cells #[.int .i64 nR, .int .i64 nP, .slice tH lZ.length uN] 29 (0, 0)) (by (with_reducible repeat (first | refine aA ?_ _ | refine aH ?_ | refine aC ?_ _)); exact gK.out) hb); have fH := aj.mk (bP.trans (by repeat (first | (with_reducible first | exact HK.out | apply bP.qI | apply eu | apply fC | apply eF | refine bU ?_ nM.out _ | refine bU ?_ pK.out _) | exact HK.out)) (bP.of_below hb g none) (.inl rfl)); have jM := aj.mk (aV (by repeat (first | (with_reducible first | exact HB.out | apply ak | apply ah | apply au | refine aG ?_ (aK.ge HI0.out) | refine aG ?_ BU.out | refine aG ?_ EY.out) | exact HB.out)) hb); have kQ := aj.mk (hbox); have kY := aj.mk ((by rw [hg]; exact (jX (w := w) (g := g) (row := none) (by repeat (first | (with_reducible first | exact HK.out | apply bP.qI | apply eu | apply fC | apply eF | refine bU ?_ nM.out _ | refine bU ?_ pK.out _) | exact HK.out))) : w.heap.size ≤ iJ)); have uV := aj.mk ((Nat.le_trans HW0.out (by rw [hg]; exact (jX (w := w) (g := g) (row := none) (by repeat (first | (with_reducible first | exact HK.out | apply bP.qI | apply eu | apply fC | apply eF | refine bU ?_ nM.out _ | refine bU ?_ pK.out _) | exact HK.out))) : w.heap.size ≤ iJ) : w0.heap.size ≤ iJ)); have Bo := aj.mk ((by rw [hg]; exact Nat.ne_of_lt (fB (g := mP) (o := .cells #[.int .i64 bV, .int .i64 bW, .slice fV bK.length f_] 29 (0, 0)) (by (with_reducible repeat (first | refine aA ?_ _ | refine aH ?_ | refine aC ?_ _)); exact gp.out)) : mP ≠ iJ)); have OL := aj.mk ((by rw [hg]; exact Nat.ne_of_gt (fB (g := mP) (o := .cells #[.int .i64 bV, .int .i64 bW, .slice fV bK.length f_] 29 (0, 0)) (by (with_reducible repeat (first | refine aA ?_ _ | refine aH ?_ | refine aC ?_ _)); exact gp.out)) : iJ ≠ mP)); have yY := aj.mk ((by rw [hg]; exact Nat.ne_of_lt (fB (g := oO) (o := .cells #[.int .i64 nR, .int .i64 nP, .slice tH lZ.length uN] 29 (0, 0)) (by (with_reducible repeat (first | refine aA ?_ _ | refine aH ?_ | refine aC ?_ _)); exact gK.out)) : oO ≠ iJ)); have JV := aj.mk ((by rw [hg]; exact Nat.ne_of_gt (fB (g := oO) (o := .cells #[.int .i64 nR, .int .i64 nP, .slice tH lZ.length uN] 29 (0, 0)) (by (with_reducible repeat (first | refine aA ?_ _ | refine aH ?_ | refine aC ?_ _)); exact gK.out)) : iJ ≠ oO)); have aaK := aj.mk ((by rw [hg]; exact Nat.ne_of_lt (aK.lt (show aK w0 _ g oQ from by repeat (first | (with_reducible first | exact HI0.out | apply aK.alloc | apply aK.drewN | apply aK.drew | apply aK.jD | refine aK.far ?_ mZ.out _ | refine aK.far ?_ qy.out _) | exact HI0.out))) : g ≠ iJ)); have aaJ := aj.mk ((by rw [hg]; exact Nat.ne_of_gt (aK.lt (show aK w0 _ g oQ from by repeat (first | (with_reducible first | exact HI0.out | apply aK.alloc | apply aK.drewN | apply aK.drew | apply aK.jD | refine aK.far ?_ mZ.out _ | refine aK.far ?_ qy.out _) | exact HI0.out))) : iJ ≠ g)); clear HI0; clear gp; clear gK; clear HK; clear HB; have HI0 := bJ; have gp := dP; have gK := dY; have HK := fH; have HB := jM; have jK := kQ; have sJ := kY; have Hf := uV; have jC := Bo; have Bg := OL; have jB := yY; have Bf := JV; have xQ := aaK; have Qg := aaJ; clear bJ dP dY fH jM kQ kY uV Bo OL yY JV aaK aaJ; clear hb hbox hg))
 have bJ := aj.mk (aH gp.out); have dP := aj.mk (aH gK.out); have dY := aj.mk (aH jK.out); have fH := aj.mk (aK.drew HI0.out); have jM := aj.mk (fC HK.out); have kQ := aj.mk (au HB.out); clear gp; clear gK; clear jK; clear HI0; clear HK; clear HB; have gp := bJ; have gK := dP; have jK := dY; have HI0 := fH; have HK := jM; have HB := kQ; clear bJ dP dY fH jM kQ; refine zU (n := 17) (S := fun w' => w'.cell? ⟨mP, 0, none⟩ = some (.int .i64 bV) ∧ w'.cell? ⟨mP, 1, none⟩ = some (.int .i64 bW) ∧ w'.cell? ⟨mP, 2, none⟩ = some (.slice fV bK.length f_) ∧ w'.cell? ⟨oO, 0, none⟩ = some (.int .i64 nR) ∧ w'.cell? ⟨oO, 1, none⟩ = some (.int .i64 nP) ∧ w'.cell? ⟨oO, 2, none⟩ = some (.slice tH lZ.length uN)) (ds := []) #[false, false, false, false, false, false, false, false, false, false, false, false, false, false, false, false, false] (by kernel_rfl) rfl rfl ⟨(az gp.out 0).trans rfl, (az gp.out 1).trans rfl, (az gp.out 2).trans rfl, (az gK.out 0).trans rfl, (az gK.out 1).trans rfl, (az gK.out 2).trans rfl⟩ (fun hHeld => ?_); refine qA cO.Vp cO.PV (fun jh Fa => ?_)
 generalize BX.drew = w12 at gp gK jK HI0 HK HB hHeld ⊢; refine fG (i := 0) (N := some 7) (v := ?_) (a' := ?_) #[true, false, false, false, false, false, false, false, false, false, false, false, false, false, false, false, false] rfl rfl (dM jh.out (by kernel_rfl)) (fun _ _ _ h => h) (Or.inl ⟨by rfl, ?_⟩) ?_ ?_
 rotate_left
 · intro w'
   go_simp
   with_reducible rfl
 rotate_left
 · simp only [Act.put, List.setIfInBounds_toArray, List.set_cons_zero, List.set_cons_succ, bT, b_]
   rfl
 refine fG (i := 1) (N := some 8) (v := ?_) (a' := ?_) #[true, true, false, false, false, false, false, false, false, false, false, false, false, false, false, false, false] rfl rfl (dM jh.out (by kernel_rfl)) (fun _ _ _ h => h) (Or.inl ⟨by rfl, ?_⟩) ?_ ?_
 rotate_left
 · intro w'
   go_simp
   with_reducible rfl
 rotate_left
 · simp only [Act.put, List.setIfInBounds_toArray, List.set_cons_zero, List.set_cons_succ, bT, b_]
   rfl
 refine pq (i := 2) (N := some 9) (v := ?_) (a' := ?_) #[true, true, true, false, false, false, false, false, false, false, false, false, false, false, false, false, false] rfl rfl (iR jh.out Fa.out (by kernel_rfl)) (fun _ _ _ h => h) (Or.inl ⟨by rfl, ?_⟩) hHeld ?_ ?_
 rotate_left
 · rintro w' ⟨s0, s1, s2, s3, s4, s5⟩
   go_simp
   with_reducible rfl
 rotate_left
 · simp only [Act.put, List.setIfInBounds_toArray, List.set_cons_zero, List.set_cons_succ, bT, b_]
   rfl
 refine pq (i := 3) (N := some 10) (v := ?_) (a' := ?_) #[true, true, true, true, false, false, false, false, false, false, false, false, false, false, false, false, false] rfl rfl (iR jh.out Fa.out (by kernel_rfl)) (fun _ _ _ h => h) (Or.inl ⟨by rfl, ?_⟩) hHeld ?_ ?_
 rotate_left
 · rintro w' ⟨s0, s1, s2, s3, s4, s5⟩
   go_simp
   with_reducible rfl
 rotate_left
 · simp only [Act.put, List.setIfInBounds_toArray, List.set_cons_zero, List.set_cons_succ, bT, b_]
   rfl
 refine pq (i := 9) (N := some 16) (v := ?_) (a' := ?_) #[true, true, true, true, false, false, false, false, false, true, false, false, false, false, false, false, false] rfl rfl (iR jh.out Fa.out (by kernel_rfl)) (fun _ _ _ h => h) (Or.inl ⟨by rfl, ?_⟩) hHeld ?_ ?_
 rotate_left
 · rintro w' ⟨s0, s1, s2, s3, s4, s5⟩
   go_simp
   with_reducible rfl
 rotate_left
 · simp only [Act.put, List.setIfInBounds_toArray, List.set_cons_zero, List.set_cons_succ, bT, b_]
   rfl
 refine yV (i := 4) (N := some 11) #[true, true, true, true, true, false, false, false, false, true, false, false, false, false, false, false, false] rfl rfl (mG jh.out (by kernel_rfl)) (by decide) (fun K hK => ?_)
 refine yh Tryz.func152 (by kernel_rfl) rfl #[.agg #[.int .i64 bV, .int .i64 bW, .slice fV bK.length f_], .agg #[.int .i64 nR, .int .i64 nP, .slice tH lZ.length uN]] (by rfl) rfl rfl (by (try simp only [List.map_toArray, List.map_cons, List.map_nil]); first | done | rfl | (simp only [List.length_drop, List.length_take]; rfl)) ?_
 with_reducible refine (jQ.calls bV bW _ _ bK nR nP _ _ lZ t106 t107 t108 t111 t112 _ ?gX ?gW ?qH ?vM A4.out).mono ?_
 (case gX => exact Kd.Ol 0 uj.out (by repeat (first | (with_reducible first | exact HK.out | apply bP.qI | apply eu | apply fC | apply eF | refine bU ?_ nM.out _ | refine bU ?_ pK.out _ | refine bU ?_ sJ.out _) | exact HK.out)) Ky)
 (case gW => exact wL.out)
 (case qH => exact Kd.Ol 0 acT.out (by repeat (first | (with_reducible first | exact HK.out | apply bP.qI | apply eu | apply fC | apply eF | refine bU ?_ nM.out _ | refine bU ?_ pK.out _ | refine bU ?_ sJ.out _) | exact HK.out)) Kw)
 (case vM => exact ac4.out)
 rintro e SG ⟨v109, rfl, ho0, hb⟩; refine ⟨_, rfl, ?_⟩
 have bJ := aj.mk (Kd.mY ho0 (jX (w := w) (g := g) (row := none) (by repeat (first | (with_reducible first | exact HK.out | apply bP.qI | apply eu | apply fC | apply eF | refine bU ?_ nM.out _ | refine bU ?_ pK.out _ | refine bU ?_ sJ.out _) | exact HK.out)))); have dP := aj.mk (aK.below (by repeat (first | (with_reducible first | exact HI0.out | apply aK.alloc | apply aK.drewN | apply aK.drew | apply aK.jD | refine aK.far ?_ mZ.out _ | refine aK.far ?_ qy.out _ | refine aK.far ?_ xQ.out _) | exact HI0.out)) hb); have dY := aj.mk (bH (g := mP) (o := .cells #[.int .i64 bV, .int .i64 bW, .slice fV bK.length f_] 29 (0, 0)) (by (with_reducible repeat (first | refine aA ?_ _ | refine aH ?_ | refine aC ?_ _)); exact gp.out) hb); have fH := aj.mk (bH (g := oO) (o := .cells #[.int .i64 nR, .int .i64 nP, .slice tH lZ.length uN] 29 (0, 0)) (by (with_reducible repeat (first | refine aA ?_ _ | refine aH ?_ | refine aC ?_ _)); exact gK.out) hb); have jM := aj.mk (bH (g := iJ) (o := .cells #[.int .i64 0, .int .i64 0, .slice none 0 0] 29 (0, 0)) (by (with_reducible repeat (first | refine aA ?_ _ | refine aH ?_ | refine aC ?_ _)); exact jK.out) hb); have kQ := aj.mk (bP.trans (by repeat (first | (with_reducible first | exact HK.out | apply bP.qI | apply eu | apply fC | apply eF | refine bU ?_ nM.out _ | refine bU ?_ pK.out _ | refine bU ?_ sJ.out _) | exact HK.out)) (bP.of_below hb g none) (.inl rfl)); have kY := aj.mk (aV (by repeat (first | (with_reducible first | exact HB.out | apply ak | apply ah | apply au | refine aG ?_ (aK.ge HI0.out) | refine aG ?_ BU.out | refine aG ?_ EY.out | refine aG ?_ Hf.out) | exact HB.out)) hb); clear HI0; clear gp; clear gK; clear jK; clear HK; clear HB; have BO := bJ; have HI0 := dP; have gp := dY; have gK := fH; have jK := jM; have HK := kQ; have HB := kY; clear bJ dP dY fH jM kQ kY
 (try clear hb)
 (try clear hb2)
 (try clear hk)
 (try clear hi)
 (try clear ho0)
 obtain ⟨aaf, Zq, abk⟩ := Kd.je BO.out
 (first | subst abk | (injection abk with Gm Rf Gl; have Q_ := Gm.symm; have Q9 := Gl.symm; clear Gm Rf Gl; subst Q_; subst Q9))
 refine hK.out _ _ ⟨(az gp.out 0).trans rfl, (az gp.out 1).trans rfl, (az gp.out 2).trans rfl, (az gK.out 0).trans rfl, (az gK.out 1).trans rfl, (az gK.out 2).trans rfl⟩ (fun hHeld => ?_)
 clear hK K; refine uU (a' := ?_) ?_ ?_
 rotate_left
 · show Act.put _ (some 11) _ = _
   simp only [Act.put, List.setIfInBounds_toArray, List.set_cons_zero, List.set_cons_succ, bT, b_]; rfl
 refine fG (i := 5) (N := some 12) (v := ?_) (a' := ?_) #[true, true, true, true, true, true, false, false, false, true, false, false, false, false, false, false, false] rfl rfl (dM jh.out (by kernel_rfl)) (fun _ _ _ h => h) (Or.inl ⟨by rfl, ?_⟩) ?_ ?_
 rotate_left
 · intro w'
   go_simp
   with_reducible rfl
 rotate_left
 · simp only [Act.put, List.setIfInBounds_toArray, List.set_cons_zero, List.set_cons_succ, bT, b_]
   rfl
 refine fG (i := 6) (N := some 13) (v := ?_) (a' := ?_) #[true, true, true, true, true, true, true, false, false, true, false, false, false, false, false, false, false] rfl rfl (dM jh.out (by kernel_rfl)) (fun _ _ _ h => h) (Or.inl ⟨by rfl, ?_⟩) ?_ ?_
 rotate_left
 · intro w'
   go_simp
   with_reducible rfl
 rotate_left
 · simp only [Act.put, List.setIfInBounds_toArray, List.set_cons_zero, List.set_cons_succ, bT, b_]
   rfl
 refine fG (i := 7) (N := some 14) (v := ?_) (a' := ?_) #[true, true, true, true, true, true, true, true, false, true, false, false, false, false, false, false, false] rfl rfl (dM jh.out (by kernel_rfl)) (fun _ _ _ h => h) (Or.inl ⟨by rfl, ?_⟩) ?_ ?_
 rotate_left
 · intro w'
   go_simp
   with_reducible rfl
 rotate_left
 · simp only [Act.put, List.setIfInBounds_toArray, List.set_cons_zero, List.set_cons_succ, bT, b_]
   rfl
 refine yV (i := 8) (N := some 15) #[true, true, true, true, true, true, true, true, true, true, false, false, false, false, false, false, false] rfl rfl (mG jh.out (by kernel_rfl)) (by decide) (fun K hK => ?_)
 refine yh Tryz.func151 (by kernel_rfl) rfl #[.pointer (some ⟨g, 0, none⟩), .agg #[.int .i64 t106, .int .i64 t107, .slice aaf t108.length Zq], .bool t111, .int .i64 t112] (by rfl) rfl rfl (by (try simp only [List.map_toArray, List.map_cons, List.map_nil]); first | done | rfl | (simp only [List.length_drop, List.length_take]; rfl)) ?_
 with_reducible refine (dX.calls g oQ t106 t107 (fun k_ => some k_ = (.slice aaf t108.length Zq : Value).ownBlock) (.slice aaf t108.length Zq) t108 t111 t112 t113 t114 t115 t118 w0 _ ?gX ?gW ?qH A5.out).mono ?_
 (case gX => repeat (first | (with_reducible first | exact HI0.out | apply aK.alloc | apply aK.drewN | apply aK.drew | apply aK.jD | refine aK.far ?_ mZ.out _ | refine aK.far ?_ qy.out _ | refine aK.far ?_ xQ.out _) | exact HI0.out))
 (case gW => repeat (first | (with_reducible first | exact HB.out | apply ak | apply ah | apply au | refine aG ?_ (aK.ge HI0.out) | refine aG ?_ BU.out | refine aG ?_ EY.out | refine aG ?_ Hf.out) | exact HB.out))
 (case qH => exact Kd.mY (Kd.P8 rfl BO.out) HL.out)
 rintro e w15 ⟨ak8, rfl, ho0, hi, hb, hkp⟩; refine ⟨_, rfl, ?_⟩
 have bJ := aj.mk (hi); have dP := aj.mk (tZ (by (with_reducible repeat (first | refine aA ?_ _ | refine aH ?_ | refine aC ?_ _)); exact gp.out) hkp (fun hs_ => Or.elim hs_ (fun hs_ => (fun e_ => (Kd.zI BO.out gp.out (by decide)) e_) hs_) (fun e_ => Qi.out e_))); have dY := aj.mk (tZ (by (with_reducible repeat (first | refine aA ?_ _ | refine aH ?_ | refine aC ?_ _)); exact gK.out) hkp (fun hs_ => Or.elim hs_ (fun hs_ => (fun e_ => (Kd.zI BO.out gK.out (by decide)) e_) hs_) (fun e_ => Qh.out e_))); have fH := aj.mk (tZ (by (with_reducible repeat (first | refine aA ?_ _ | refine aH ?_ | refine aC ?_ _)); exact jK.out) hkp (fun hs_ => Or.elim hs_ (fun hs_ => (fun e_ => (Kd.zI BO.out jK.out (by decide)) e_) hs_) (fun e_ => Qg.out e_))); have jM := aj.mk (Kd.jc (ok' := fun k_ => True) (Kd.P_ (d := (Kd.int .i64)) (b := w0.heap.size) (b' := w.heap.size) (fun _ _ _ _ h_ => h_) ho0 (fun k_ e_ => Or.elim (ho0.1 k_ e_) (fun hs_ => (fun e_ => Kd.wJ BO.out k_ e_.symm) hs_) (fun TW => Nat.le_trans (jX (w := w) (g := g) (row := none) (by repeat (first | (with_reducible first | exact HK.out | apply bP.qI | apply eu | apply fC | apply eF | refine bU ?_ nM.out _ | refine bU ?_ pK.out _ | refine bU ?_ sJ.out _) | exact HK.out))) TW))) (fun k_ Kq => trivial)); have kQ := aj.mk (Kept.XJ (by repeat (first | (with_reducible first | exact HK.out | apply bP.qI | apply eu | apply fC | apply eF | refine bU ?_ nM.out _ | refine bU ?_ pK.out _ | refine bU ?_ sJ.out _) | exact HK.out)) hkp (fun k_ hs_ => Or.elim hs_ (fun hs_ => (fun e_ => .inr (Kd.wJ BO.out k_ e_.symm)) hs_) (fun e_ => .inl e_))); have kY := aj.mk (hb); clear HI0; clear gp; clear gK; clear jK; clear HK; clear HB; clear BO; have HI0 := bJ; have gp := dP; have gK := dY; have jK := fH; have pY := jM; have HK := kQ; have HB := kY; clear bJ dP dY fH jM kQ kY
 (try clear hb)
 (try clear hkp)
 (try clear ho0)
 refine hK.out _ _ ⟨(az gp.out 0).trans rfl, (az gp.out 1).trans rfl, (az gp.out 2).trans rfl, (az gK.out 0).trans rfl, (az gK.out 1).trans rfl, (az gK.out 2).trans rfl⟩ (fun hHeld => ?_)
 clear hK K; refine uU (a' := ?_) ?_ ?_
 rotate_left
 · show Act.put _ (some 15) _ = _
   simp only [Act.put, List.setIfInBounds_toArray, List.set_cons_zero, List.set_cons_succ, bT, b_]; rfl
 refine yV (i := 10) (N := some 17) #[true, true, true, true, true, true, true, true, true, true, true, false, false, false, false, false, false] rfl rfl (mG jh.out (by kernel_rfl)) (by decide) (fun K hK => ?_)
 refine yh Tryz.func82 (by kernel_rfl) rfl #[.agg #[.int .i64 bV, .int .i64 bW, .slice fV bK.length f_]] (by rfl) rfl rfl (by (try simp only [List.map_toArray, List.map_cons, List.map_nil]); first | done | rfl | (simp only [List.length_drop, List.length_take]; rfl)) ?_
 with_reducible refine (kU.calls bV bW _ _ bK t119 t120 t121 _ ?gX ?gW A6.out).mono ?_
 (case gX => exact Kd.Ol 0 uj.out (by repeat (first | (with_reducible first | exact HK.out | apply bP.qI | apply eu | apply fC | apply eF | refine bU ?_ nM.out _ | refine bU ?_ pK.out _ | refine bU ?_ sJ.out _) | exact HK.out)) Ky)
 (case gW => exact wL.out)
 rintro e w16 ⟨ak7, rfl, ho0, hb⟩; refine ⟨_, rfl, ?_⟩
 have bJ := aj.mk (Kd.zJ (by (with_reducible repeat (first | apply Kd.dO | apply Kd.dN | apply Kd.eG)); exact pY.out) (Kd.wJ ho0) hb); have dP := aj.mk (Kd.mY (Kd.Jp ho0 (Kd.Oe (by (with_reducible repeat (first | apply Kd.dO | apply Kd.dN | apply Kd.eG)); exact pY.out))) (jX (w := w) (g := g) (row := none) (by repeat (first | (with_reducible first | exact HK.out | apply bP.qI | apply eu | apply fC | apply eF | refine bU ?_ nM.out _ | refine bU ?_ pK.out _ | refine bU ?_ sJ.out _) | exact HK.out)))); have dY := aj.mk (aK.below (by repeat (first | (with_reducible first | exact HI0.out | apply aK.alloc | apply aK.drewN | apply aK.drew | apply aK.jD | refine aK.far ?_ mZ.out _ | refine aK.far ?_ qy.out _ | refine aK.far ?_ xQ.out _) | exact HI0.out)) hb); have fH := aj.mk (bH (g := mP) (o := .cells #[.int .i64 bV, .int .i64 bW, .slice fV bK.length f_] 29 (0, 0)) (by (with_reducible repeat (first | refine aA ?_ _ | refine aH ?_ | refine aC ?_ _)); exact gp.out) hb); have jM := aj.mk (bH (g := oO) (o := .cells #[.int .i64 nR, .int .i64 nP, .slice tH lZ.length uN] 29 (0, 0)) (by (with_reducible repeat (first | refine aA ?_ _ | refine aH ?_ | refine aC ?_ _)); exact gK.out) hb); have kQ := aj.mk (bH (g := iJ) (o := .cells #[.int .i64 0, .int .i64 0, .slice none 0 0] 29 (0, 0)) (by (with_reducible repeat (first | refine aA ?_ _ | refine aH ?_ | refine aC ?_ _)); exact jK.out) hb); have kY := aj.mk (bP.trans (by repeat (first | (with_reducible first | exact HK.out | apply bP.qI | apply eu | apply fC | apply eF | refine bU ?_ nM.out _ | refine bU ?_ pK.out _ | refine bU ?_ sJ.out _) | exact HK.out)) (bP.of_below hb g none) (.inl rfl)); have uV := aj.mk (aV (by repeat (first | (with_reducible first | exact HB.out | apply ak | apply ah | apply au | refine aG ?_ (aK.ge HI0.out) | refine aG ?_ BU.out | refine aG ?_ EY.out | refine aG ?_ Hf.out) | exact HB.out)) hb); clear pY; clear HI0; clear gp; clear gK; clear jK; clear HK; clear HB; have pY := bJ; have vC := dP; have HI0 := dY; have gp := fH; have gK := jM; have jK := kQ; have HK := kY; have HB := uV; clear bJ dP dY fH jM kQ kY uV
 (try clear hb)
 (try clear hb2)
 (try clear hk)
 (try clear hi)
 (try clear ho0)
 obtain ⟨aae, Zp, abj⟩ := Kd.je pY.out
 (first | subst abj | (injection abj with Gm Rf Gl; have Q_ := Gm.symm; have Q9 := Gl.symm; clear Gm Rf Gl; subst Q_; subst Q9))
 obtain ⟨aad, WW, Ur⟩ := Kd.je vC.out
 (first | subst Ur | (injection Ur with Gm Rf Gl; have Q_ := Gm.symm; have Q9 := Gl.symm; clear Gm Rf Gl; subst Q_; subst Q9))
 refine hK.out _ _ ⟨(az gp.out 0).trans rfl, (az gp.out 1).trans rfl, (az gp.out 2).trans rfl, (az gK.out 0).trans rfl, (az gK.out 1).trans rfl, (az gK.out 2).trans rfl⟩ (fun hHeld => ?_)
 clear hK K; refine uU (a' := ?_) ?_ ?_
 rotate_left
 · show Act.put _ (some 17) _ = _
   simp only [Act.put, List.setIfInBounds_toArray, List.set_cons_zero, List.set_cons_succ, bT, b_]; rfl
 refine yV (i := 11) (N := some 18) #[true, true, true, true, true, true, true, true, true, true, true, true, false, false, false, false, false] rfl rfl (mG jh.out (by kernel_rfl)) (by decide) (fun K hK => ?_)
 refine yh Tryz.func152 (by kernel_rfl) rfl #[.agg #[.int .i64 t113, .int .i64 t114, .slice aae t115.length Zp], .agg #[.int .i64 t119, .int .i64 t120, .slice aad t121.length WW]] (by rfl) rfl rfl (by (try simp only [List.map_toArray, List.map_cons, List.map_nil]); first | done | rfl | (simp only [List.length_drop, List.length_take]; rfl)) ?_
 with_reducible refine (jQ.calls t113 t114 _ _ t115 t119 t120 _ _ t121 t124 t125 t126 t129 t130 _ ?gX ?gW ?qH ?vM A7.out).mono ?_
 (case gX => repeat (first | exact (Kd.kT pY.out).2.2 | (with_reducible refine Kd.iD ?_ _) | (with_reducible refine Kd.iC ?_ _) | (with_reducible refine Kd.jv ?_)))
 (case gW => exact (Kd.kT pY.out).2.1)
 (case qH => repeat (first | exact (Kd.kT vC.out).2.2 | (with_reducible refine Kd.iD ?_ _) | (with_reducible refine Kd.iC ?_ _) | (with_reducible refine Kd.jv ?_)))
 (case vM => exact (Kd.kT vC.out).2.1)
 rintro e w19 ⟨v127, rfl, ho0, hb⟩; refine ⟨_, rfl, ?_⟩
 have bJ := aj.mk (Kd.zJ (by (with_reducible repeat (first | apply Kd.dO | apply Kd.dN | apply Kd.eG)); exact pY.out) (Kd.wJ ho0) hb); have dP := aj.mk (Kd.zJ (by (with_reducible repeat (first | apply Kd.dO | apply Kd.dN | apply Kd.eG)); exact vC.out) (Kd.wJ ho0) hb); have dY := aj.mk (Kd.mY (Kd.Jp (Kd.Jp ho0 (Kd.Oe (by (with_reducible repeat (first | apply Kd.dO | apply Kd.dN | apply Kd.eG)); exact pY.out))) (Kd.Oe (by (with_reducible repeat (first | apply Kd.dO | apply Kd.dN | apply Kd.eG)); exact vC.out))) (jX (w := w) (g := g) (row := none) (by repeat (first | (with_reducible first | exact HK.out | apply bP.qI | apply eu | apply fC | apply eF | refine bU ?_ nM.out _ | refine bU ?_ pK.out _ | refine bU ?_ sJ.out _) | exact HK.out)))); have fH := aj.mk (aK.below (by repeat (first | (with_reducible first | exact HI0.out | apply aK.alloc | apply aK.drewN | apply aK.drew | apply aK.jD | refine aK.far ?_ mZ.out _ | refine aK.far ?_ qy.out _ | refine aK.far ?_ xQ.out _) | exact HI0.out)) hb); have jM := aj.mk (bH (g := mP) (o := .cells #[.int .i64 bV, .int .i64 bW, .slice fV bK.length f_] 29 (0, 0)) (by (with_reducible repeat (first | refine aA ?_ _ | refine aH ?_ | refine aC ?_ _)); exact gp.out) hb); have kQ := aj.mk (bH (g := oO) (o := .cells #[.int .i64 nR, .int .i64 nP, .slice tH lZ.length uN] 29 (0, 0)) (by (with_reducible repeat (first | refine aA ?_ _ | refine aH ?_ | refine aC ?_ _)); exact gK.out) hb); have kY := aj.mk (bH (g := iJ) (o := .cells #[.int .i64 0, .int .i64 0, .slice none 0 0] 29 (0, 0)) (by (with_reducible repeat (first | refine aA ?_ _ | refine aH ?_ | refine aC ?_ _)); exact jK.out) hb); have uV := aj.mk (bP.trans (by repeat (first | (with_reducible first | exact HK.out | apply bP.qI | apply eu | apply fC | apply eF | refine bU ?_ nM.out _ | refine bU ?_ pK.out _ | refine bU ?_ sJ.out _) | exact HK.out)) (bP.of_below hb g none) (.inl rfl)); have Bo := aj.mk (aV (by repeat (first | (with_reducible first | exact HB.out | apply ak | apply ah | apply au | refine aG ?_ (aK.ge HI0.out) | refine aG ?_ BU.out | refine aG ?_ EY.out | refine aG ?_ Hf.out) | exact HB.out)) hb); clear pY; clear vC; clear HI0; clear gp; clear gK; clear jK; clear HK; clear HB; have pY := bJ; have vC := dP; have BM := dY; have HI0 := fH; have gp := jM; have gK := kQ; have jK := kY; have HK := uV; have HB := Bo; clear bJ dP dY fH jM kQ kY uV Bo
 (try clear hb)
 (try clear hb2)
 (try clear hk)
 (try clear hi)
 (try clear ho0)
 obtain ⟨Xt, RD, Uo⟩ := Kd.je BM.out
 (first | subst Uo | (injection Uo with Gm Rf Gl; have Q_ := Gm.symm; have Q9 := Gl.symm; clear Gm Rf Gl; subst Q_; subst Q9))
 refine hK.out _ _ ⟨(az gp.out 0).trans rfl, (az gp.out 1).trans rfl, (az gp.out 2).trans rfl, (az gK.out 0).trans rfl, (az gK.out 1).trans rfl, (az gK.out 2).trans rfl⟩ (fun hHeld => ?_)
 clear hK K; refine uU (a' := ?_) ?_ ?_
 rotate_left
 · show Act.put _ (some 18) _ = _
   simp only [Act.put, List.setIfInBounds_toArray, List.set_cons_zero, List.set_cons_succ, bT, b_]; rfl
 refine fG (i := 12) (N := some 19) (v := ?_) (a' := ?_) #[true, true, true, true, true, true, true, true, true, true, true, true, true, false, false, false, false] rfl rfl (dM jh.out (by kernel_rfl)) (fun _ _ _ h => h) (Or.inl ⟨by rfl, ?_⟩) ?_ ?_
 rotate_left
 · intro w'
   go_simp
   with_reducible rfl
 rotate_left
 · simp only [Act.put, List.setIfInBounds_toArray, List.set_cons_zero, List.set_cons_succ, bT, b_]
   rfl
 refine fG (i := 13) (N := some 20) (v := ?_) (a' := ?_) #[true, true, true, true, true, true, true, true, true, true, true, true, true, true, false, false, false] rfl rfl (dM jh.out (by kernel_rfl)) (fun _ _ _ h => h) (Or.inl ⟨by rfl, ?_⟩) ?_ ?_
 rotate_left
 · intro w'
   go_simp
   with_reducible rfl
 rotate_left
 · simp only [Act.put, List.setIfInBounds_toArray, List.set_cons_zero, List.set_cons_succ, bT, b_]
   rfl
 refine fG (i := 14) (N := some 21) (v := ?_) (a' := ?_) #[true, true, true, true, true, true, true, true, true, true, true, true, true, true, true, false, false] rfl rfl (dM jh.out (by kernel_rfl)) (fun _ _ _ h => h) (Or.inl ⟨by rfl, ?_⟩) ?_ ?_
 rotate_left
 · intro w'
   go_simp
   with_reducible rfl
 rotate_left
 · simp only [Act.put, List.setIfInBounds_toArray, List.set_cons_zero, List.set_cons_succ, bT, b_]
   rfl
 refine yV (i := 15) (N := some 22) #[true, true, true, true, true, true, true, true, true, true, true, true, true, true, true, true, false] rfl rfl (mG jh.out (by kernel_rfl)) (by decide) (fun K hK => ?_)
 refine yh Tryz.func151 (by kernel_rfl) rfl #[.pointer (some ⟨g, 0, none⟩), .agg #[.int .i64 t124, .int .i64 t125, .slice Xt t126.length RD], .bool t129, .int .i64 t130] (by rfl) rfl rfl (by (try simp only [List.map_toArray, List.map_cons, List.map_nil]); first | done | rfl | (simp only [List.length_drop, List.length_take]; rfl)) ?_
 with_reducible refine (dX.calls g t118 t124 t125 (fun k_ => some k_ = (.slice Xt t126.length RD : Value).ownBlock) (.slice Xt t126.length RD) t126 t129 t130 t131 t132 t133 t136 w0 _ ?gX ?gW ?qH A8.out).mono ?_
 (case gX => repeat (first | (with_reducible first | exact HI0.out | apply aK.alloc | apply aK.drewN | apply aK.drew | apply aK.jD | refine aK.far ?_ mZ.out _ | refine aK.far ?_ qy.out _ | refine aK.far ?_ xQ.out _) | exact HI0.out))
 (case gW => repeat (first | (with_reducible first | exact HB.out | apply ak | apply ah | apply au | refine aG ?_ (aK.ge HI0.out) | refine aG ?_ BU.out | refine aG ?_ EY.out | refine aG ?_ Hf.out) | exact HB.out))
 (case qH => exact Kd.mY (Kd.P8 rfl BM.out) HL.out)
 rintro e Xx ⟨aaz, rfl, ho0, hi, hb, hkp⟩; refine ⟨_, rfl, ?_⟩
 have bJ := aj.mk (hi); have dP := aj.mk (tZ (by (with_reducible repeat (first | refine aA ?_ _ | refine aH ?_ | refine aC ?_ _)); exact gp.out) hkp (fun hs_ => Or.elim hs_ (fun hs_ => (fun e_ => (Kd.zI BM.out gp.out (by decide)) e_) hs_) (fun e_ => Qi.out e_))); have dY := aj.mk (tZ (by (with_reducible repeat (first | refine aA ?_ _ | refine aH ?_ | refine aC ?_ _)); exact gK.out) hkp (fun hs_ => Or.elim hs_ (fun hs_ => (fun e_ => (Kd.zI BM.out gK.out (by decide)) e_) hs_) (fun e_ => Qh.out e_))); have fH := aj.mk (tZ (by (with_reducible repeat (first | refine aA ?_ _ | refine aH ?_ | refine aC ?_ _)); exact jK.out) hkp (fun hs_ => Or.elim hs_ (fun hs_ => (fun e_ => (Kd.zI BM.out jK.out (by decide)) e_) hs_) (fun e_ => Qg.out e_))); have jM := aj.mk (Kd.jc (ok' := fun k_ => some k_ ≠ (.slice aad t121.length WW : Value).ownBlock ∧ some k_ ≠ (aaz : Value).ownBlock) (Kd.Qa ((aK.apart HI0.out pY.out (by decide))) hkp (fun k_ Kq hs_ => Or.elim hs_ (fun hs_ => (Kq.1.2) hs_) (fun e_ => (Kq.2) e_))) (fun k_ Kq => ⟨Kq.1.1.1.2, fun e_ => Or.elim (ho0.1 k_ e_.symm) (fun hs_ => Kq.2.1 (.inl hs_)) (fun TW => Nat.not_le.2 Kq.2.2 TW)⟩)); have kQ := aj.mk (Kd.jc (ok' := fun k_ => some k_ ≠ (.slice aae t115.length Zp : Value).ownBlock ∧ some k_ ≠ (aaz : Value).ownBlock) (Kd.Qa ((aK.apart HI0.out vC.out (by decide))) hkp (fun k_ Kq hs_ => Or.elim hs_ (fun hs_ => (Kq.1.2) hs_) (fun e_ => (Kq.2) e_))) (fun k_ Kq => ⟨Kq.1.1.1.2, fun e_ => Or.elim (ho0.1 k_ e_.symm) (fun hs_ => Kq.2.1 (.inl hs_)) (fun TW => Nat.not_le.2 Kq.2.2 TW)⟩)); have kY := aj.mk (Kd.jc (ok' := fun k_ => some k_ ≠ (.slice aae t115.length Zp : Value).ownBlock ∧ some k_ ≠ (.slice aad t121.length WW : Value).ownBlock) (Kd.P_ (d := (Kd.int .i64)) (b := w0.heap.size) (b' := w.heap.size) (fun _ _ _ _ h_ => h_) ho0 (fun k_ e_ => Or.elim (ho0.1 k_ e_) (fun hs_ => (fun e_ => Kd.wJ BM.out k_ e_.symm) hs_) (fun TW => Nat.le_trans (jX (w := w) (g := g) (row := none) (by repeat (first | (with_reducible first | exact HK.out | apply bP.qI | apply eu | apply fC | apply eF | refine bU ?_ nM.out _ | refine bU ?_ pK.out _ | refine bU ?_ sJ.out _) | exact HK.out))) TW))) (fun k_ Kq => ⟨Or.elim Kq (fun hs_ => fun e_ => ((((aK.apart HI0.out pY.out (by decide))).1 k_ e_.symm).1.2) hs_) (fun TW => (Kd.fresh' (Kd.Oe (by (with_reducible repeat (first | apply Kd.dO | apply Kd.dN | apply Kd.eG)); exact pY.out)) k_ TW)), Or.elim Kq (fun hs_ => fun e_ => ((((aK.apart HI0.out vC.out (by decide))).1 k_ e_.symm).1.2) hs_) (fun TW => (Kd.fresh' (Kd.Oe (by (with_reducible repeat (first | apply Kd.dO | apply Kd.dN | apply Kd.eG)); exact vC.out)) k_ TW))⟩)); have uV := aj.mk (Kept.XJ (by repeat (first | (with_reducible first | exact HK.out | apply bP.qI | apply eu | apply fC | apply eF | refine bU ?_ nM.out _ | refine bU ?_ pK.out _ | refine bU ?_ sJ.out _) | exact HK.out)) hkp (fun k_ hs_ => Or.elim hs_ (fun hs_ => (fun e_ => .inr (Kd.wJ BM.out k_ e_.symm)) hs_) (fun e_ => .inl e_))); have Bo := aj.mk (hb); clear HI0; clear gp; clear gK; clear jK; clear pY; clear vC; clear HK; clear HB; clear BM; have HI0 := bJ; have gp := dP; have gK := dY; have jK := fH; have pY := jM; have vC := kQ; have Yd := kY; have HK := uV; have HB := Bo; clear bJ dP dY fH jM kQ kY uV Bo
 (try clear hb)
 (try clear hkp)
 (try clear ho0)
 obtain ⟨ado, abp, abg⟩ := Kd.je Yd.out
 (first | subst abg | (injection abg with Gm Rf Gl; have Q_ := Gm.symm; have Q9 := Gl.symm; clear Gm Rf Gl; subst Q_; subst Q9))
 refine hK.out _ _ ⟨(az gp.out 0).trans rfl, (az gp.out 1).trans rfl, (az gp.out 2).trans rfl, (az gK.out 0).trans rfl, (az gK.out 1).trans rfl, (az gK.out 2).trans rfl⟩ (fun hHeld => ?_)
 clear hK K; refine uU (a' := ?_) ?_ ?_
 rotate_left
 · show Act.put _ (some 22) _ = _
   simp only [Act.put, List.setIfInBounds_toArray, List.set_cons_zero, List.set_cons_succ, bT, b_]; rfl
 refine yV (i := 16) (N := none) #[true, true, true, true, true, true, true, true, true, true, true, true, true, true, true, true, true] rfl rfl (mG jh.out (by kernel_rfl)) (by decide) (fun K hK => ?_)
 have alA : Xx.cell? ⟨iJ, 0, none⟩ = some (.int .i64 0) := (az jK.out 0).trans rfl; have ajn := ay jK.out 0; have adV := jC.out; have adU := jB.out; have ad8 := Bg.out; have ad7 := Bf.out; have alz : Xx.cell? ⟨iJ, 1, none⟩ = some (.int .i64 0) := (az jK.out 1).trans rfl; have ajm := ay jK.out 1; have adT := jC.out; have adS := jB.out; have ad6 := Bg.out; have ad5 := Bf.out; have aly : Xx.cell? ⟨iJ, 2, none⟩ = some (.slice none 0 0) := (az jK.out 2).trans rfl; have ajl := ay jK.out 2; have adR := jC.out; have adQ := jB.out; have ad4 := Bg.out; have ad3 := Bf.out; refine OE (w1 := ?_) (by rfl) rfl ?_ ?_
 rotate_left
 · go_simp
   rfl
 refine hK.out _ _ ⟨((cell_far (p := ⟨iJ, _, none⟩) jC.out _).trans (((cell_far (p := ⟨iJ, _, none⟩) jC.out _).trans (((cell_far (p := ⟨iJ, _, none⟩) jC.out _).trans (hHeld.1)))))), ((cell_far (p := ⟨iJ, _, none⟩) jC.out _).trans (((cell_far (p := ⟨iJ, _, none⟩) jC.out _).trans (((cell_far (p := ⟨iJ, _, none⟩) jC.out _).trans (hHeld.2.1)))))), ((cell_far (p := ⟨iJ, _, none⟩) jC.out _).trans (((cell_far (p := ⟨iJ, _, none⟩) jC.out _).trans (((cell_far (p := ⟨iJ, _, none⟩) jC.out _).trans (hHeld.2.2.1)))))), ((cell_far (p := ⟨iJ, _, none⟩) jB.out _).trans (((cell_far (p := ⟨iJ, _, none⟩) jB.out _).trans (((cell_far (p := ⟨iJ, _, none⟩) jB.out _).trans (hHeld.2.2.2.1)))))), ((cell_far (p := ⟨iJ, _, none⟩) jB.out _).trans (((cell_far (p := ⟨iJ, _, none⟩) jB.out _).trans (((cell_far (p := ⟨iJ, _, none⟩) jB.out _).trans (hHeld.2.2.2.2.1)))))), ((cell_far (p := ⟨iJ, _, none⟩) jB.out _).trans (((cell_far (p := ⟨iJ, _, none⟩) jB.out _).trans (((cell_far (p := ⟨iJ, _, none⟩) jB.out _).trans (hHeld.2.2.2.2.2))))))⟩ (fun hHeld => ?_)
 clear hK K; refine Gt (xK jh.out (by kernel_rfl)) ?_
 try go_wp2
 refine bodyPost_ret (results_cell_row rfl _ _ iJ 29 #[.int .i64 t131, .int .i64 t132, .slice ado t133.length abp] (0, 0) _ rfl (by (with_reducible repeat (first | refine aA ?_ _ | refine aH ?_ | refine aC ?_ _)); refine bM (cs := #[.int .i64 t131, .int .i64 t132, .slice none 0 0]) ?_ 2 _ rfl; (with_reducible repeat (first | refine aA ?_ _ | refine aH ?_ | refine aC ?_ _)); refine bM (cs := #[.int .i64 t131, .int .i64 0, .slice none 0 0]) ?_ 1 _ rfl; (with_reducible repeat (first | refine aA ?_ _ | refine aH ?_ | refine aC ?_ _)); refine bM (cs := #[.int .i64 0, .int .i64 0, .slice none 0 0]) ?_ 0 _ rfl; (with_reducible repeat (first | refine aA ?_ _ | refine aH ?_ | refine aC ?_ _)); exact jK.out) Tryz.underlying29 rfl (by kernel_rfl)) rfl ?_
 exact ⟨_, by first | rfl | (simp [aQ, aN] <;> rfl) | (simp [*, aQ, aN] <;> rfl), by (with_reducible repeat (first | apply Kd.dO | apply Kd.dN | apply Kd.eG)); exact Kd.jc (Kd.gI (p := ⟨iJ, 2, none⟩) (Kd.gI (p := ⟨iJ, 1, none⟩) (Kd.gI (p := ⟨iJ, 0, none⟩) (Kd.l_ Yd.out jK.out (by decide)) (fun _ hk => hk.2) (.int .i64 t131)) (fun _ hk => hk.2) (.int .i64 t132)) (fun _ hk => hk.2) (.slice ado t133.length abp)) (fun _ hk => trivial), by repeat (first | (with_reducible first | exact HI0.out | apply aK.alloc | apply aK.drewN | apply aK.drew | apply aK.jD | refine aK.far ?_ mZ.out _ | refine aK.far ?_ qy.out _ | refine aK.far ?_ xQ.out _) | exact HI0.out), by repeat (first | (with_reducible first | exact HB.out | apply ak | apply ah | apply au | refine aG ?_ (aK.ge HI0.out) | refine aG ?_ BU.out | refine aG ?_ EY.out | refine aG ?_ Hf.out) | exact HB.out), by repeat (first | (with_reducible first | exact HK.out | apply bP.qI | apply eu | apply fC | apply eF | refine bU ?_ nM.out _ | refine bU ?_ pK.out _ | refine bU ?_ sJ.out _) | exact HK.out)⟩
end Go.Proofs.YtcfobekkchhbbaaGreat.PR

