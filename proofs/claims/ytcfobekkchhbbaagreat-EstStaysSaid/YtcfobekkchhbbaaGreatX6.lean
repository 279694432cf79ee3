import Derived.Test.YtcfobekkchhbbaaGreatX5
import Derived.Laws.MakeOwn
import Derived.Laws.IdiomCopy
import Derived.Test.YtcfobekkchhbbaaGreatProg
import Derived.Test.YtcfobekkchhbbaaGreatX1
/- Joined and thinned by a program of this session's own (wip/pack2.py) out of its texts (wip/ of its repo); parts were laid by its own program (wip/print-patch.py over the kit's print) out of the translation; Lean checks all. -/
set_option maxRecDepth 100000
set_option maxHeartbeats 4000000
namespace Go.Proofs.YtcfobekkchhbbaaGreat.KK
open Go.RowKit Go.Proofs.af.aK Go.Proofs.af.aV Go.Proofs.af.aW
set_option linter.unusedVariables false
set_option linter.unusedSimpArgs false
def iZ (f : Int → Int → Int × Bool) (r c : Nat) (l m : List Int) : List Int := upto c (fun i k => (f (l.getD (i * c + k) 0) (m.getD (i * c + k) 0)).1) r
def jU (f : Int → Int → Int × Bool) (r c : Nat) (l m : List Int) : Bool := vZ c (fun i k => (f (l.getD (i * c + k) 0) (m.getD (i * c + k) 0)).2) r
attribute [local go_sem high] PQ.UE
theorem pW (r c : Int) (A : Option Addr) (l : List Int) (cp : Nat) (w : World) (hA : Rd w A l) (hc : l.length ≤ cp) : Calls Tryz.prog 131 #[.agg #[I r, I c, .slice A l.length cp]] w fun e w' => e = .returned (.agg #[I r, I c]) ∧ Below w.heap.size w w' :=
 PQ.oL.calls r c A cp l r c w hA hc rfl
theorem Ew : Enters 200 := enters Tryz.func200 rfl rfl
theorem Qk (r c : Nat) (A A' : Option Addr) (cp cp' : Nat) (n g : Nat) (l m : List Int) (w : World) (hr : r ≤ 8) (hc : c ≤ 8) (hl : l.length = r * c) (hm : m.length = r * c) (hA : Rd w A l) (hA' : Rd w A' m)
 (D : Row w n 151 #[.func (.func 94) #[] #[]]) (R : Row w g 29 #[I r, I c, .slice A l.length cp]) (R' : Row w (g + 1) 29 #[I r, I c, .slice A' m.length cp']) (hn : True) :
 zl w 200 #[.pointer (some ⟨n, 0, none⟩), .pointer (some ⟨g, 0, none⟩), .pointer (some ⟨g + 1, 0, none⟩)] r c (fun i k => (iL (l.getD (i * c + k) 0) (m.getD (i * c + k) 0)).1) (fun i k => (iL (l.getD (i * c + k) 0) (m.getD (i * c + k) 0)).2) := by
 intro i k w' hi hk hb; have D1 := Lib.hid (D.below hb D.lt); have R1 := Lib.hid (R.below hb R.lt); have R2 := Lib.hid (R'.below hb R'.lt); have hle : r * c ≤ 8 * 8 := Nat.mul_le_mul hr hc; have hlt : i * c + k < r * c := jK hi hk; have H1 := Lib.hid (fun w' h => lH r c A cp l i k w' h (by rw [hl]; exact hlt) (by rw [hl]; omega)); have H2 := Lib.hid (fun w' h => lH r c A' cp' m i k w' h (by rw [hm]; exact hlt) (by rw [hm]; omega)); have A1 := Lib.hid (hA.below hb); have A2 := Lib.hid (hA'.below hb)
 obtain ⟨x, hx⟩ : ∃ x, l.getD (i * c + k) 0 = x := ⟨_, rfl⟩
 obtain ⟨y, hy⟩ : ∃ y, m.getD (i * c + k) 0 = y := ⟨_, rfl⟩
 rw [hx] at H1; rw [hy] at H2
 show Calls Tryz.prog 200 #[I i, I k, .pointer (some ⟨n, 0, none⟩), .pointer (some ⟨g, 0, none⟩), .pointer (some ⟨g + 1, 0, none⟩)] w' fun e w'' => e = .returned (.tuple #[I (iL (l.getD (i * c + k) 0) (m.getD (i * c + k) 0)).1, .bool (iL (l.getD (i * c + k) 0) (m.getD (i * c + k) 0)).2]) ∧ Below w'.heap.size w' w''
 rw [hx, hy]; have H3 := Lib.hid (fun w => pK x y w)
 obtain ⟨z, hz⟩ : ∃ z, iL x y = z := ⟨_, rfl⟩
 rw [hz] at H3 ⊢; obtain ⟨z1, z2⟩ := z; clear hb R R' D hA hA' hr hc hle hl hm hx hy hz hlt; have K : Hid (∀ w2, Below w'.heap.size w' w2 → (∀ o, w2.cell? ⟨n, o, none⟩ = #[.func (.func 94) #[] #[]][o]?) ∧ (∀ o, w2.cell? ⟨g, o, none⟩ = #[I r, I c, .slice A l.length cp][o]?) ∧ (∀ o, w2.cell? ⟨g + 1, o, none⟩ = #[I r, I c, .slice A' m.length cp'][o]?)) := Lib.hid (fun w2 hb => ⟨(D1.out.below hb D1.out.lt).cell, (R1.out.below hb R1.out.lt).cell, (R2.out.below hb R2.out.lt).cell⟩); have B0 := Lib.hid (Below.refl w'.heap.size w'); have B1 := Lib.hid B0.out.drew; have x1 := D1.out.cell; have x2 := R1.out.cell; have x3 := R2.out.cell; clear D1 R1 R2
 go_enter Tryz.func200, Tryz.ntmps200
 go_wp2_with fail
 go_region_held3 (fun w2 => (∀ o, w2.cell? ⟨n, o, none⟩ = #[.func (.func 94) #[] #[]][o]?) ∧ (∀ o, w2.cell? ⟨g, o, none⟩ = #[I r, I c, .slice A l.length cp][o]?) ∧ (∀ o, w2.cell? ⟨g + 1, o, none⟩ = #[I r, I c, .slice A' m.length cp'][o]?))
  (first | with_reducible exact K.out _ B4.out | with_reducible exact K.out _ B3.out | with_reducible exact K.out _ B2.out | with_reducible exact K.out _ B1.out | with_reducible exact K.out _ B0.out)
  (first
    | (go_at_call 94
       refine (H3.out _).mono ?_
       rintro e w4 ⟨rfl, hb⟩; have B4 := Lib.hid (B3.out.trans (hb.mono B3.out.size))
       clear hb)
    | (go_at_call 134
       refine (H2.out _ (A2.out.below B2.out)).mono ?_
       rintro e w3 ⟨rfl, hb⟩; have B3 := Lib.hid (B2.out.trans (hb.mono B2.out.size))
       clear hb)
    | (go_at_call 134
       refine (H1.out _ (A1.out.below B1.out)).mono ?_
       rintro e w2 ⟨rfl, hb⟩; have B2 := Lib.hid (B1.out.trans (hb.mono B1.out.size))
       clear hb))
 all_goals
  go_wp2
  go_ret2
  exact ⟨rfl, B4.out⟩
theorem UN (r c : Nat) (A A' : Option Addr) (cp cp' : Nat) (l m : List Int) (w : World) (hr : r ≤ 8) (hc : c ≤ 8) (hl : l.length = r * c) (hm : m.length = r * c) (hA : Rd w A l) (hA' : Rd w A' m) (hcp : l.length ≤ cp) (yR : m.length ≤ cp') :
 Calls Tryz.prog 187 #[.agg #[I r, I c, (.slice A l.length cp)], .agg #[I r, I c, (.slice A' m.length cp')], .func (.func 94) #[] #[]] w fun e w' => ∃ A2 c2, e = .returned (.tuple #[.agg #[I r, I c, .slice A2 (iZ iL r c l m).length c2], .bool (jU iL r c l m), I 0]) ∧ Own w' w.heap.size (.slice A2 (iZ iL r c l m).length c2) (iZ iL r c l m) ∧ Below w.heap.size w w' := by
 have N : Hid (aY w [(29, #[I r, I c, (.slice A l.length cp)]), (29, #[I r, I c, (.slice A' m.length cp')]), (151, #[.func (.func 94) #[] #[]]), (29, #[I 0, I 0, .slice none 0 0])] ((((w.alloc (.cells #[I r, I c, (.slice A l.length cp)] 29)).alloc (.cells #[I r, I c, (.slice A' m.length cp')] 29)).alloc (.cells #[.func (.func 94) #[] #[]] 151)).alloc (.cells #[I 0, I 0, .slice none 0 0] 29))) := Lib.hid (((((aY.none w).push (by simp) _ _).push (by simp) _ _).push (by simp) _ _).push (by simp) _ _); have O1 := Lib.hid (fun w' h => pW r c A l cp w' h hcp); have O2 := Lib.hid (fun w' h => pW r c A' m cp' w' h yR); have HA := Lib.hid hA; have HA' := Lib.hid hA'
 obtain ⟨L, hL⟩ : ∃ L, iZ iL r c l m = L := ⟨_, rfl⟩
 obtain ⟨b, hb⟩ : ∃ b, jU iL r c l m = b := ⟨_, rfl⟩
 have HM := Lib.hid (fun w' (h : aY w [(29, #[I r, I c, (.slice A l.length cp)]), (29, #[I r, I c, (.slice A' m.length cp')]), (151, #[.func (.func 94) #[] #[]]), (29, #[I 0, I 0, .slice none 0 0])] w') => sZ 200 #[.pointer (some ⟨w.heap.size + 1 + 1, 0, none⟩), .pointer (some ⟨w.heap.size, 0, none⟩), .pointer (some ⟨w.heap.size + 1, 0, none⟩)] r c _ _ w' L b hL hb hr hc Ew (Qk r c A A' cp cp' _ w.heap.size l m w' hr hc hl hm (hA.below h.be) (hA'.below h.be) h.r2 h.r0 h.r1 trivial)); rw [hL, hb]; clear hr hc hl hm hA hA' hcp yR hL hb; have KK : Hid (∀ w', aY w [(29, #[I r, I c, (.slice A l.length cp)]), (29, #[I r, I c, (.slice A' m.length cp')]), (151, #[.func (.func 94) #[] #[]]), (29, #[I 0, I 0, .slice none 0 0])] w' → (∀ o, w'.cell? ⟨w.heap.size, o, none⟩ = #[I r, I c, (.slice A l.length cp)][o]?) ∧ (∀ o, w'.cell? ⟨w.heap.size + 1, o, none⟩ = #[I r, I c, (.slice A' m.length cp')][o]?)) := Lib.hid (fun w' h => ⟨h.r0.cell, h.r1.cell⟩); have y0 := N.out.r0.cell; have y1 := N.out.r1.cell
 go_enter Tryz.func187, Tryz.ntmps187
 go_wp2_with fail
 go_region_held3 (fun w' => (∀ o, w'.cell? ⟨w.heap.size, o, none⟩ = #[I r, I c, (.slice A l.length cp)][o]?) ∧ (∀ o, w'.cell? ⟨w.heap.size + 1, o, none⟩ = #[I r, I c, (.slice A' m.length cp')][o]?))
  (first | with_reducible exact KK.out _ N3.out | with_reducible exact KK.out _ N2.out | with_reducible exact KK.out _ N.out.drew | with_reducible exact KK.out _ N.out)
  (first
    | (go_at_call 131
       refine (O2.out _ (HA'.out.below N2.out.be)).mono ?_
       rintro e w3 ⟨rfl, hb⟩; have N3 := Lib.hid (N2.out.below hb)
       clear hb)
    | (go_at_call 131
       refine (O1.out _ (HA.out.below N.out.drew.be)).mono ?_
       rintro e w2 ⟨rfl, hb⟩; have N2 := Lib.hid (N.out.drew.below hb)
       clear hb))
 have x1 := N3.out.r0.cell; have t1 := N3.out.r0.lt; have hmf := hmf
 go_wp2_with (go_at_call 131
              refine (O1.out _ (HA.out.below N3.out.be)).mono ?_
              rintro e w4 ⟨rfl, hb⟩; have N4 := Lib.hid (N3.out.below hb)
              clear hb)
 refine (HM.out _ N4.out).mono ?_
 rintro e w5 ⟨A2, c2, rfl, ho, hb⟩; have O := Lib.hid ho; have N5 := Lib.hid (N4.out.below hb); have S4 := N4.out.be.size; have L4 := N4.out.r3.lt; clear ho hb x1 t1; have x3 := N5.out.r3.cell; have g3 := N5.out.r3.free; have t3 := N5.out.r3.lt; go_wp2
 refine bodyPost_ret (uU rfl rfl ((N5.out.r3.cO _ _ _).alloc _)) rfl ⟨_, _, rfl, ?_, (Below.cO N5.out.be (by omega) _ _ _).alloc (by have := N5.out.be.size; simp; omega) _⟩
 exact ((O.out.cO (by omega) _ _ _).alloc _).lower (by omega)
theorem Qi (r c : Nat) (A A' : Option Addr) (cp cp' : Nat) (n g : Nat) (l m : List Int) (w : World) (hr : r ≤ 8) (hc : c ≤ 8) (hl : l.length = r * c) (hm : m.length = r * c) (hA : Rd w A l) (hA' : Rd w A' m)
 (D : Row w n 151 #[.func (.func 91) #[] #[]]) (R : Row w g 29 #[I r, I c, .slice A l.length cp]) (R' : Row w (g + 1) 29 #[I r, I c, .slice A' m.length cp']) (hn : True) :
 zl w 200 #[.pointer (some ⟨n, 0, none⟩), .pointer (some ⟨g, 0, none⟩), .pointer (some ⟨g + 1, 0, none⟩)] r c (fun i k => (lT (l.getD (i * c + k) 0) (m.getD (i * c + k) 0)).1) (fun i k => (lT (l.getD (i * c + k) 0) (m.getD (i * c + k) 0)).2) := by
 intro i k w' hi hk hb; have D1 := Lib.hid (D.below hb D.lt); have R1 := Lib.hid (R.below hb R.lt); have R2 := Lib.hid (R'.below hb R'.lt); have hle : r * c ≤ 8 * 8 := Nat.mul_le_mul hr hc; have hlt : i * c + k < r * c := jK hi hk; have H1 := Lib.hid (fun w' h => lH r c A cp l i k w' h (by rw [hl]; exact hlt) (by rw [hl]; omega)); have H2 := Lib.hid (fun w' h => lH r c A' cp' m i k w' h (by rw [hm]; exact hlt) (by rw [hm]; omega)); have A1 := Lib.hid (hA.below hb); have A2 := Lib.hid (hA'.below hb)
 obtain ⟨x, hx⟩ : ∃ x, l.getD (i * c + k) 0 = x := ⟨_, rfl⟩
 obtain ⟨y, hy⟩ : ∃ y, m.getD (i * c + k) 0 = y := ⟨_, rfl⟩
 rw [hx] at H1; rw [hy] at H2
 show Calls Tryz.prog 200 #[I i, I k, .pointer (some ⟨n, 0, none⟩), .pointer (some ⟨g, 0, none⟩), .pointer (some ⟨g + 1, 0, none⟩)] w' fun e w'' => e = .returned (.tuple #[I (lT (l.getD (i * c + k) 0) (m.getD (i * c + k) 0)).1, .bool (lT (l.getD (i * c + k) 0) (m.getD (i * c + k) 0)).2]) ∧ Below w'.heap.size w' w''
 rw [hx, hy]; have H3 := Lib.hid (fun w => rJ x y w)
 obtain ⟨z, hz⟩ : ∃ z, lT x y = z := ⟨_, rfl⟩
 rw [hz] at H3 ⊢; obtain ⟨z1, z2⟩ := z; clear hb R R' D hA hA' hr hc hle hl hm hx hy hz hlt; have K : Hid (∀ w2, Below w'.heap.size w' w2 → (∀ o, w2.cell? ⟨n, o, none⟩ = #[.func (.func 91) #[] #[]][o]?) ∧ (∀ o, w2.cell? ⟨g, o, none⟩ = #[I r, I c, .slice A l.length cp][o]?) ∧ (∀ o, w2.cell? ⟨g + 1, o, none⟩ = #[I r, I c, .slice A' m.length cp'][o]?)) := Lib.hid (fun w2 hb => ⟨(D1.out.below hb D1.out.lt).cell, (R1.out.below hb R1.out.lt).cell, (R2.out.below hb R2.out.lt).cell⟩); have B0 := Lib.hid (Below.refl w'.heap.size w'); have B1 := Lib.hid B0.out.drew; have x1 := D1.out.cell; have x2 := R1.out.cell; have x3 := R2.out.cell; clear D1 R1 R2
 go_enter Tryz.func200, Tryz.ntmps200
 go_wp2_with fail
 go_region_held3 (fun w2 => (∀ o, w2.cell? ⟨n, o, none⟩ = #[.func (.func 91) #[] #[]][o]?) ∧ (∀ o, w2.cell? ⟨g, o, none⟩ = #[I r, I c, .slice A l.length cp][o]?) ∧ (∀ o, w2.cell? ⟨g + 1, o, none⟩ = #[I r, I c, .slice A' m.length cp'][o]?))
  (first | with_reducible exact K.out _ B4.out | with_reducible exact K.out _ B3.out | with_reducible exact K.out _ B2.out | with_reducible exact K.out _ B1.out | with_reducible exact K.out _ B0.out)
  (first
    | (go_at_call 91
       refine (H3.out _).mono ?_
       rintro e w4 ⟨rfl, hb⟩; have B4 := Lib.hid (B3.out.trans (hb.mono B3.out.size))
       clear hb)
    | (go_at_call 134
       refine (H2.out _ (A2.out.below B2.out)).mono ?_
       rintro e w3 ⟨rfl, hb⟩; have B3 := Lib.hid (B2.out.trans (hb.mono B2.out.size))
       clear hb)
    | (go_at_call 134
       refine (H1.out _ (A1.out.below B1.out)).mono ?_
       rintro e w2 ⟨rfl, hb⟩; have B2 := Lib.hid (B1.out.trans (hb.mono B1.out.size))
       clear hb))
 all_goals
  go_wp2
  go_ret2
  exact ⟨rfl, B4.out⟩
theorem UM (r c : Nat) (A A' : Option Addr) (cp cp' : Nat) (l m : List Int) (w : World) (hr : r ≤ 8) (hc : c ≤ 8) (hl : l.length = r * c) (hm : m.length = r * c) (hA : Rd w A l) (hA' : Rd w A' m) (hcp : l.length ≤ cp) (yR : m.length ≤ cp') :
 Calls Tryz.prog 187 #[.agg #[I r, I c, (.slice A l.length cp)], .agg #[I r, I c, (.slice A' m.length cp')], .func (.func 91) #[] #[]] w fun e w' => ∃ A2 c2, e = .returned (.tuple #[.agg #[I r, I c, .slice A2 (iZ lT r c l m).length c2], .bool (jU lT r c l m), I 0]) ∧ Own w' w.heap.size (.slice A2 (iZ lT r c l m).length c2) (iZ lT r c l m) ∧ Below w.heap.size w w' := by
 have N : Hid (aY w [(29, #[I r, I c, (.slice A l.length cp)]), (29, #[I r, I c, (.slice A' m.length cp')]), (151, #[.func (.func 91) #[] #[]]), (29, #[I 0, I 0, .slice none 0 0])] ((((w.alloc (.cells #[I r, I c, (.slice A l.length cp)] 29)).alloc (.cells #[I r, I c, (.slice A' m.length cp')] 29)).alloc (.cells #[.func (.func 91) #[] #[]] 151)).alloc (.cells #[I 0, I 0, .slice none 0 0] 29))) := Lib.hid (((((aY.none w).push (by simp) _ _).push (by simp) _ _).push (by simp) _ _).push (by simp) _ _); have O1 := Lib.hid (fun w' h => pW r c A l cp w' h hcp); have O2 := Lib.hid (fun w' h => pW r c A' m cp' w' h yR); have HA := Lib.hid hA; have HA' := Lib.hid hA'
 obtain ⟨L, hL⟩ : ∃ L, iZ lT r c l m = L := ⟨_, rfl⟩
 obtain ⟨b, hb⟩ : ∃ b, jU lT r c l m = b := ⟨_, rfl⟩
 have HM := Lib.hid (fun w' (h : aY w [(29, #[I r, I c, (.slice A l.length cp)]), (29, #[I r, I c, (.slice A' m.length cp')]), (151, #[.func (.func 91) #[] #[]]), (29, #[I 0, I 0, .slice none 0 0])] w') => sZ 200 #[.pointer (some ⟨w.heap.size + 1 + 1, 0, none⟩), .pointer (some ⟨w.heap.size, 0, none⟩), .pointer (some ⟨w.heap.size + 1, 0, none⟩)] r c _ _ w' L b hL hb hr hc Ew (Qi r c A A' cp cp' _ w.heap.size l m w' hr hc hl hm (hA.below h.be) (hA'.below h.be) h.r2 h.r0 h.r1 trivial)); rw [hL, hb]; clear hr hc hl hm hA hA' hcp yR hL hb; have KK : Hid (∀ w', aY w [(29, #[I r, I c, (.slice A l.length cp)]), (29, #[I r, I c, (.slice A' m.length cp')]), (151, #[.func (.func 91) #[] #[]]), (29, #[I 0, I 0, .slice none 0 0])] w' → (∀ o, w'.cell? ⟨w.heap.size, o, none⟩ = #[I r, I c, (.slice A l.length cp)][o]?) ∧ (∀ o, w'.cell? ⟨w.heap.size + 1, o, none⟩ = #[I r, I c, (.slice A' m.length cp')][o]?)) := Lib.hid (fun w' h => ⟨h.r0.cell, h.r1.cell⟩); have y0 := N.out.r0.cell; have y1 := N.out.r1.cell
 go_enter Tryz.func187, Tryz.ntmps187
 go_wp2_with fail
 go_region_held3 (fun w' => (∀ o, w'.cell? ⟨w.heap.size, o, none⟩ = #[I r, I c, (.slice A l.length cp)][o]?) ∧ (∀ o, w'.cell? ⟨w.heap.size + 1, o, none⟩ = #[I r, I c, (.slice A' m.length cp')][o]?))
  (first | with_reducible exact KK.out _ N3.out | with_reducible exact KK.out _ N2.out | with_reducible exact KK.out _ N.out.drew | with_reducible exact KK.out _ N.out)
  (first
    | (go_at_call 131
       refine (O2.out _ (HA'.out.below N2.out.be)).mono ?_
       rintro e w3 ⟨rfl, hb⟩; have N3 := Lib.hid (N2.out.below hb)
       clear hb)
    | (go_at_call 131
       refine (O1.out _ (HA.out.below N.out.drew.be)).mono ?_
       rintro e w2 ⟨rfl, hb⟩; have N2 := Lib.hid (N.out.drew.below hb)
       clear hb))
 have x1 := N3.out.r0.cell; have t1 := N3.out.r0.lt; have hmf := hmf
 go_wp2_with (go_at_call 131
              refine (O1.out _ (HA.out.below N3.out.be)).mono ?_
              rintro e w4 ⟨rfl, hb⟩; have N4 := Lib.hid (N3.out.below hb)
              clear hb)
 refine (HM.out _ N4.out).mono ?_
 rintro e w5 ⟨A2, c2, rfl, ho, hb⟩; have O := Lib.hid ho; have N5 := Lib.hid (N4.out.below hb); have S4 := N4.out.be.size; have L4 := N4.out.r3.lt; clear ho hb x1 t1; have x3 := N5.out.r3.cell; have g3 := N5.out.r3.free; have t3 := N5.out.r3.lt; go_wp2
 refine bodyPost_ret (uU rfl rfl ((N5.out.r3.cO _ _ _).alloc _)) rfl ⟨_, _, rfl, ?_, (Below.cO N5.out.be (by omega) _ _ _).alloc (by have := N5.out.be.size; simp; omega) _⟩
 exact ((O.out.cO (by omega) _ _ _).alloc _).lower (by omega)
theorem LU (r c : Nat) (A A' : Option Addr) (cp cp' : Nat) (n g : Nat) (l m : List Int) (w : World) (hr : r ≤ 8) (hc : c ≤ 8) (hl : l.length = r * c) (hm : m.length = r * c) (hA : Rd w A l) (hA' : Rd w A' m)
 (D : Row w n 151 #[.func (.func 201) #[] #[]]) (R : Row w g 29 #[I r, I c, .slice A l.length cp]) (R' : Row w (g + 1) 29 #[I r, I c, .slice A' m.length cp']) (hn : True) :
 zl w 200 #[.pointer (some ⟨n, 0, none⟩), .pointer (some ⟨g, 0, none⟩), .pointer (some ⟨g + 1, 0, none⟩)] r c (fun i k => (lD (l.getD (i * c + k) 0) (m.getD (i * c + k) 0)).1) (fun i k => (lD (l.getD (i * c + k) 0) (m.getD (i * c + k) 0)).2) := by
 intro i k w' hi hk hb; have D1 := Lib.hid (D.below hb D.lt); have R1 := Lib.hid (R.below hb R.lt); have R2 := Lib.hid (R'.below hb R'.lt); have hle : r * c ≤ 8 * 8 := Nat.mul_le_mul hr hc; have hlt : i * c + k < r * c := jK hi hk; have H1 := Lib.hid (fun w' h => lH r c A cp l i k w' h (by rw [hl]; exact hlt) (by rw [hl]; omega)); have H2 := Lib.hid (fun w' h => lH r c A' cp' m i k w' h (by rw [hm]; exact hlt) (by rw [hm]; omega)); have A1 := Lib.hid (hA.below hb); have A2 := Lib.hid (hA'.below hb)
 obtain ⟨x, hx⟩ : ∃ x, l.getD (i * c + k) 0 = x := ⟨_, rfl⟩
 obtain ⟨y, hy⟩ : ∃ y, m.getD (i * c + k) 0 = y := ⟨_, rfl⟩
 rw [hx] at H1; rw [hy] at H2
 show Calls Tryz.prog 200 #[I i, I k, .pointer (some ⟨n, 0, none⟩), .pointer (some ⟨g, 0, none⟩), .pointer (some ⟨g + 1, 0, none⟩)] w' fun e w'' => e = .returned (.tuple #[I (lD (l.getD (i * c + k) 0) (m.getD (i * c + k) 0)).1, .bool (lD (l.getD (i * c + k) 0) (m.getD (i * c + k) 0)).2]) ∧ Below w'.heap.size w' w''
 rw [hx, hy]; have H3 := Lib.hid (fun w => N_ x y w)
 obtain ⟨z, hz⟩ : ∃ z, lD x y = z := ⟨_, rfl⟩
 rw [hz] at H3 ⊢; obtain ⟨z1, z2⟩ := z; clear hb R R' D hA hA' hr hc hle hl hm hx hy hz hlt; have K : Hid (∀ w2, Below w'.heap.size w' w2 → (∀ o, w2.cell? ⟨n, o, none⟩ = #[.func (.func 201) #[] #[]][o]?) ∧ (∀ o, w2.cell? ⟨g, o, none⟩ = #[I r, I c, .slice A l.length cp][o]?) ∧ (∀ o, w2.cell? ⟨g + 1, o, none⟩ = #[I r, I c, .slice A' m.length cp'][o]?)) := Lib.hid (fun w2 hb => ⟨(D1.out.below hb D1.out.lt).cell, (R1.out.below hb R1.out.lt).cell, (R2.out.below hb R2.out.lt).cell⟩); have B0 := Lib.hid (Below.refl w'.heap.size w'); have B1 := Lib.hid B0.out.drew; have x1 := D1.out.cell; have x2 := R1.out.cell; have x3 := R2.out.cell; clear D1 R1 R2
 go_enter Tryz.func200, Tryz.ntmps200
 go_wp2_with fail
 go_region_held3 (fun w2 => (∀ o, w2.cell? ⟨n, o, none⟩ = #[.func (.func 201) #[] #[]][o]?) ∧ (∀ o, w2.cell? ⟨g, o, none⟩ = #[I r, I c, .slice A l.length cp][o]?) ∧ (∀ o, w2.cell? ⟨g + 1, o, none⟩ = #[I r, I c, .slice A' m.length cp'][o]?))
  (first | with_reducible exact K.out _ B4.out | with_reducible exact K.out _ B3.out | with_reducible exact K.out _ B2.out | with_reducible exact K.out _ B1.out | with_reducible exact K.out _ B0.out)
  (first
    | (go_at_call 201
       refine (H3.out _).mono ?_
       rintro e w4 ⟨rfl, hb⟩; have B4 := Lib.hid (B3.out.trans (hb.mono B3.out.size))
       clear hb)
    | (go_at_call 134
       refine (H2.out _ (A2.out.below B2.out)).mono ?_
       rintro e w3 ⟨rfl, hb⟩; have B3 := Lib.hid (B2.out.trans (hb.mono B2.out.size))
       clear hb)
    | (go_at_call 134
       refine (H1.out _ (A1.out.below B1.out)).mono ?_
       rintro e w2 ⟨rfl, hb⟩; have B2 := Lib.hid (B1.out.trans (hb.mono B1.out.size))
       clear hb))
 all_goals
  go_wp2
  go_ret2
  exact ⟨rfl, B4.out⟩
theorem Rf (r c : Nat) (A A' : Option Addr) (cp cp' : Nat) (l m : List Int) (w : World) (hr : r ≤ 8) (hc : c ≤ 8) (hl : l.length = r * c) (hm : m.length = r * c) (hA : Rd w A l) (hA' : Rd w A' m) (hcp : l.length ≤ cp) (yR : m.length ≤ cp') :
 Calls Tryz.prog 187 #[.agg #[I r, I c, (.slice A l.length cp)], .agg #[I r, I c, (.slice A' m.length cp')], .func (.func 201) #[] #[]] w fun e w' => ∃ A2 c2, e = .returned (.tuple #[.agg #[I r, I c, .slice A2 (iZ lD r c l m).length c2], .bool (jU lD r c l m), I 0]) ∧ Own w' w.heap.size (.slice A2 (iZ lD r c l m).length c2) (iZ lD r c l m) ∧ Below w.heap.size w w' := by
 have N : Hid (aY w [(29, #[I r, I c, (.slice A l.length cp)]), (29, #[I r, I c, (.slice A' m.length cp')]), (151, #[.func (.func 201) #[] #[]]), (29, #[I 0, I 0, .slice none 0 0])] ((((w.alloc (.cells #[I r, I c, (.slice A l.length cp)] 29)).alloc (.cells #[I r, I c, (.slice A' m.length cp')] 29)).alloc (.cells #[.func (.func 201) #[] #[]] 151)).alloc (.cells #[I 0, I 0, .slice none 0 0] 29))) := Lib.hid (((((aY.none w).push (by simp) _ _).push (by simp) _ _).push (by simp) _ _).push (by simp) _ _); have O1 := Lib.hid (fun w' h => pW r c A l cp w' h hcp); have O2 := Lib.hid (fun w' h => pW r c A' m cp' w' h yR); have HA := Lib.hid hA; have HA' := Lib.hid hA'
 obtain ⟨L, hL⟩ : ∃ L, iZ lD r c l m = L := ⟨_, rfl⟩
 obtain ⟨b, hb⟩ : ∃ b, jU lD r c l m = b := ⟨_, rfl⟩
 have HM := Lib.hid (fun w' (h : aY w [(29, #[I r, I c, (.slice A l.length cp)]), (29, #[I r, I c, (.slice A' m.length cp')]), (151, #[.func (.func 201) #[] #[]]), (29, #[I 0, I 0, .slice none 0 0])] w') => sZ 200 #[.pointer (some ⟨w.heap.size + 1 + 1, 0, none⟩), .pointer (some ⟨w.heap.size, 0, none⟩), .pointer (some ⟨w.heap.size + 1, 0, none⟩)] r c _ _ w' L b hL hb hr hc Ew (LU r c A A' cp cp' _ w.heap.size l m w' hr hc hl hm (hA.below h.be) (hA'.below h.be) h.r2 h.r0 h.r1 trivial)); rw [hL, hb]; clear hr hc hl hm hA hA' hcp yR hL hb; have KK : Hid (∀ w', aY w [(29, #[I r, I c, (.slice A l.length cp)]), (29, #[I r, I c, (.slice A' m.length cp')]), (151, #[.func (.func 201) #[] #[]]), (29, #[I 0, I 0, .slice none 0 0])] w' → (∀ o, w'.cell? ⟨w.heap.size, o, none⟩ = #[I r, I c, (.slice A l.length cp)][o]?) ∧ (∀ o, w'.cell? ⟨w.heap.size + 1, o, none⟩ = #[I r, I c, (.slice A' m.length cp')][o]?)) := Lib.hid (fun w' h => ⟨h.r0.cell, h.r1.cell⟩); have y0 := N.out.r0.cell; have y1 := N.out.r1.cell
 go_enter Tryz.func187, Tryz.ntmps187
 go_wp2_with fail
 go_region_held3 (fun w' => (∀ o, w'.cell? ⟨w.heap.size, o, none⟩ = #[I r, I c, (.slice A l.length cp)][o]?) ∧ (∀ o, w'.cell? ⟨w.heap.size + 1, o, none⟩ = #[I r, I c, (.slice A' m.length cp')][o]?))
  (first | with_reducible exact KK.out _ N3.out | with_reducible exact KK.out _ N2.out | with_reducible exact KK.out _ N.out.drew | with_reducible exact KK.out _ N.out)
  (first
    | (go_at_call 131
       refine (O2.out _ (HA'.out.below N2.out.be)).mono ?_
       rintro e w3 ⟨rfl, hb⟩; have N3 := Lib.hid (N2.out.below hb)
       clear hb)
    | (go_at_call 131
       refine (O1.out _ (HA.out.below N.out.drew.be)).mono ?_
       rintro e w2 ⟨rfl, hb⟩; have N2 := Lib.hid (N.out.drew.below hb)
       clear hb))
 have x1 := N3.out.r0.cell; have t1 := N3.out.r0.lt; have hmf := hmf
 go_wp2_with (go_at_call 131
              refine (O1.out _ (HA.out.below N3.out.be)).mono ?_
              rintro e w4 ⟨rfl, hb⟩; have N4 := Lib.hid (N3.out.below hb)
              clear hb)
 refine (HM.out _ N4.out).mono ?_
 rintro e w5 ⟨A2, c2, rfl, ho, hb⟩; have O := Lib.hid ho; have N5 := Lib.hid (N4.out.below hb); have S4 := N4.out.be.size; have L4 := N4.out.r3.lt; clear ho hb x1 t1; have x3 := N5.out.r3.cell; have g3 := N5.out.r3.free; have t3 := N5.out.r3.lt; go_wp2
 refine bodyPost_ret (uU rfl rfl ((N5.out.r3.cO _ _ _).alloc _)) rfl ⟨_, _, rfl, ?_, (Below.cO N5.out.be (by omega) _ _ _).alloc (by have := N5.out.be.size; simp; omega) _⟩
 exact ((O.out.cO (by omega) _ _ _).alloc _).lower (by omega)
theorem Ii (r c : Nat) (A A' : Option Addr) (cp cp' : Nat) (l m : List Int) (w : World) (hr : r ≤ 8) (hc : c ≤ 8) (hl : l.length = r * c) (hm : m.length = r * c) (hA : Rd w A l) (hA' : Rd w A' m) (hcp : l.length ≤ cp) (yR : m.length ≤ cp') :
 Calls Tryz.prog 153 #[.agg #[I r, I c, (.slice A l.length cp)], .agg #[I r, I c, (.slice A' m.length cp')]] w fun e w' => ∃ v, e = .returned (.tuple #[.agg #[I r, I c, v], .bool (jU iL r c l m), I 0]) ∧ Own w' w.heap.size v (iZ iL r c l m) ∧ Below w.heap.size w w' := by
 have N : Hid (aY w [(29, #[I r, I c, (.slice A l.length cp)]), (29, #[I r, I c, (.slice A' m.length cp')]), (29, #[I 0, I 0, .slice none 0 0])] (((w.alloc (.cells #[I r, I c, (.slice A l.length cp)] 29)).alloc (.cells #[I r, I c, (.slice A' m.length cp')] 29)).alloc (.cells #[I 0, I 0, .slice none 0 0] 29))) := Lib.hid ((((aY.none w).push (by simp) _ _).push (by simp) _ _).push (by simp) _ _); have HM := Lib.hid (UN r c A A' cp cp' l m _ hr hc hl hm (hA.below N.out.be) (hA'.below N.out.be) hcp yR)
 obtain ⟨L, hL⟩ : ∃ L, iZ iL r c l m = L := ⟨_, rfl⟩
 obtain ⟨b, hb⟩ : ∃ b, jU iL r c l m = b := ⟨_, rfl⟩
 rw [hL, hb] at HM ⊢; clear hr hc hl hm hA hA' hcp yR hL hb
 go_enter Tryz.func153, Tryz.ntmps153
 go_wp2_with fail
 refine HM.out.mono ?_
 rintro e w5 ⟨A2, c2, rfl, ho, hb⟩; have O := Lib.hid ho; have N5 := Lib.hid (N.out.below hb); clear ho hb N HM; have x3 := N5.out.r2.cell; have g3 := N5.out.r2.free; have t3 := N5.out.r2.lt; go_wp2
 refine bodyPost_ret (uU rfl rfl (N5.out.r2.cO _ _ _)) rfl ⟨_, rfl, ?_, Below.cO N5.out.be (by omega) _ _ _⟩
 exact (O.out.cO (by simp) _ _ _).lower (by simp; omega)
theorem V5 (r c : Nat) (A A' : Option Addr) (cp cp' : Nat) (l m : List Int) (w : World) (hr : r ≤ 8) (hc : c ≤ 8) (hl : l.length = r * c) (hm : m.length = r * c) (hA : Rd w A l) (hA' : Rd w A' m) (hcp : l.length ≤ cp) (yR : m.length ≤ cp') :
 Calls Tryz.prog 205 #[.agg #[I r, I c, (.slice A l.length cp)], .agg #[I r, I c, (.slice A' m.length cp')]] w fun e w' => ∃ v, e = .returned (.tuple #[.agg #[I r, I c, v], .bool (jU lT r c l m), I 0]) ∧ Own w' w.heap.size v (iZ lT r c l m) ∧ Below w.heap.size w w' := by
 have N : Hid (aY w [(29, #[I r, I c, (.slice A l.length cp)]), (29, #[I r, I c, (.slice A' m.length cp')]), (29, #[I 0, I 0, .slice none 0 0])] (((w.alloc (.cells #[I r, I c, (.slice A l.length cp)] 29)).alloc (.cells #[I r, I c, (.slice A' m.length cp')] 29)).alloc (.cells #[I 0, I 0, .slice none 0 0] 29))) := Lib.hid ((((aY.none w).push (by simp) _ _).push (by simp) _ _).push (by simp) _ _); have HM := Lib.hid (UM r c A A' cp cp' l m _ hr hc hl hm (hA.below N.out.be) (hA'.below N.out.be) hcp yR)
 obtain ⟨L, hL⟩ : ∃ L, iZ lT r c l m = L := ⟨_, rfl⟩
 obtain ⟨b, hb⟩ : ∃ b, jU lT r c l m = b := ⟨_, rfl⟩
 rw [hL, hb] at HM ⊢; clear hr hc hl hm hA hA' hcp yR hL hb
 go_enter Tryz.func205, Tryz.ntmps205
 go_wp2_with fail
 refine HM.out.mono ?_
 rintro e w5 ⟨A2, c2, rfl, ho, hb⟩; have O := Lib.hid ho; have N5 := Lib.hid (N.out.below hb); clear ho hb N HM; have x3 := N5.out.r2.cell; have g3 := N5.out.r2.free; have t3 := N5.out.r2.lt; go_wp2
 refine bodyPost_ret (uU rfl rfl (N5.out.r2.cO _ _ _)) rfl ⟨_, rfl, ?_, Below.cO N5.out.be (by omega) _ _ _⟩
 exact (O.out.cO (by simp) _ _ _).lower (by simp; omega)
end Go.Proofs.YtcfobekkchhbbaaGreat.KK

namespace Go.Proofs.YtcfobekkchhbbaaGreat.KK
open Go.RowKit Go.Proofs.af.aK Go.Proofs.af.aV Go.Proofs.af.aW
set_option linter.unusedVariables false
set_option linter.unusedSimpArgs false
def kW (r c : Nat) (l : List Int) (q : Int) : List Int := upto c (fun i k => (jE (l.getD (i * c + k) 0) q).1) r
def scaleB (r c : Nat) (l : List Int) (q : Int) : Bool := vZ c (fun i k => (jE (l.getD (i * c + k) 0) q).2) r
theorem UH : Enters 209 := enters Tryz.func209 rfl rfl
theorem UI : Enters 186 := enters Tryz.func186 rfl rfl
theorem JE (r c : Nat) (A : Option Addr) (cp : Nat) (g : Nat) (q : Int) (l : List Int) (w : World) (hr : r ≤ 8) (hc : c ≤ 8) (hl : l.length = r * c) (hA : Rd w A l)
 (R : Row w g 29 #[I r, I c, (.slice A l.length cp)]) (R' : Row w (g + 1) 22 #[I q]) :
 zl w 209 #[.pointer (some ⟨g, 0, none⟩), .pointer (some ⟨g + 1, 0, none⟩)] r c (fun i k => (jE (l.getD (i * c + k) 0) q).1) (fun i k => (jE (l.getD (i * c + k) 0) q).2) := by
 intro i k w' hi hk hb; have R1 := Lib.hid (R.below hb R.lt); have R2 := Lib.hid (R'.below hb R'.lt); have hle : r * c ≤ 8 * 8 := Nat.mul_le_mul hr hc; have hlt : i * c + k < r * c := jK hi hk; have H1 := Lib.hid (fun w' h => lH r c A cp l i k w' h (by rw [hl]; exact hlt) (by rw [hl]; omega)); have A1 := Lib.hid (hA.below hb)
 obtain ⟨x, hx⟩ : ∃ x, l.getD (i * c + k) 0 = x := ⟨_, rfl⟩
 rw [hx] at H1
 show Calls Tryz.prog 209 #[I i, I k, .pointer (some ⟨g, 0, none⟩), .pointer (some ⟨g + 1, 0, none⟩)] w' fun e w'' => e = .returned (.tuple #[I (jE (l.getD (i * c + k) 0) q).1, .bool (jE (l.getD (i * c + k) 0) q).2]) ∧ Below w'.heap.size w' w''
 rw [hx]; have H3 := Lib.hid (fun w => gJ x q w)
 obtain ⟨z, hz⟩ : ∃ z, jE x q = z := ⟨_, rfl⟩
 rw [hz] at H3 ⊢; obtain ⟨z1, z2⟩ := z; clear hb R R' hA hr hc hle hl hx hz hlt; have K : Hid (∀ w2, Below w'.heap.size w' w2 → (∀ o, w2.cell? ⟨g, o, none⟩ = #[I r, I c, (.slice A l.length cp)][o]?) ∧ (∀ o, w2.cell? ⟨g + 1, o, none⟩ = #[I q][o]?)) := Lib.hid (fun w2 hb => ⟨(R1.out.below hb R1.out.lt).cell, (R2.out.below hb R2.out.lt).cell⟩); have B0 := Lib.hid (Below.refl w'.heap.size w'); have B1 := Lib.hid B0.out.drew; have x2 := R1.out.cell; have x3 := R2.out.cell; clear R1 R2
 go_enter Tryz.func209, Tryz.ntmps209
 go_wp2_with fail
 go_region_held3 (fun w2 => (∀ o, w2.cell? ⟨g, o, none⟩ = #[I r, I c, (.slice A l.length cp)][o]?) ∧ (∀ o, w2.cell? ⟨g + 1, o, none⟩ = #[I q][o]?))
  (first | with_reducible exact K.out _ B3.out | with_reducible exact K.out _ B2.out | with_reducible exact K.out _ B1.out | with_reducible exact K.out _ B0.out)
  (first
    | (go_at_call 92
       refine (H3.out _).mono ?_
       rintro e w4 ⟨rfl, hb⟩; have B3 := Lib.hid (B2.out.trans (hb.mono B2.out.size))
       clear hb)
    | (go_at_call 134
       refine (H1.out _ (A1.out.below B1.out)).mono ?_
       rintro e w2 ⟨rfl, hb⟩; have B2 := Lib.hid (B1.out.trans (hb.mono B1.out.size))
       clear hb))
 all_goals
  go_wp2
  go_ret2
  exact ⟨rfl, B3.out⟩
theorem QL (r c : Nat) (A : Option Addr) (cp : Nat) (l : List Int) (q : Int) (w : World) (hr : r ≤ 8) (hc : c ≤ 8) (hl : l.length = r * c) (hA : Rd w A l) (hcp : l.length ≤ cp) :
 Calls Tryz.prog 203 #[.agg #[I r, I c, (.slice A l.length cp)], I q] w fun e w' => ∃ v, e = .returned (.tuple #[.agg #[I r, I c, v], .bool (scaleB r c l q)]) ∧ Own w' w.heap.size v (kW r c l q) ∧ Below w.heap.size w w' := by
 have N : Hid (aY w [(29, #[I r, I c, (.slice A l.length cp)]), (22, #[I q]), (29, #[I 0, I 0, .slice none 0 0])] (((w.alloc (.cells #[I r, I c, (.slice A l.length cp)] 29)).alloc (.cells #[I q] 22)).alloc (.cells #[I 0, I 0, .slice none 0 0] 29))) := Lib.hid ((((aY.none w).push (by simp) _ _).push (by simp) _ _).push (by simp) _ _); have O1 := Lib.hid (fun w' h => pW r c A l cp w' h hcp); have HA := Lib.hid hA
 obtain ⟨L, hL⟩ : ∃ L, kW r c l q = L := ⟨_, rfl⟩
 obtain ⟨b, hb⟩ : ∃ b, scaleB r c l q = b := ⟨_, rfl⟩
 have HM := Lib.hid (fun w' (h : aY w [(29, #[I r, I c, (.slice A l.length cp)]), (22, #[I q]), (29, #[I 0, I 0, .slice none 0 0])] w') => sZ 209 #[.pointer (some ⟨w.heap.size, 0, none⟩), .pointer (some ⟨w.heap.size + 1, 0, none⟩)] r c _ _ w' L b hL hb hr hc UH (JE r c A cp w.heap.size q l w' hr hc hl (hA.below h.be) h.r0 h.r1)); rw [hL, hb]; clear hr hc hl hA hcp hL hb; have hmf := hmf
 go_enter Tryz.func203, Tryz.ntmps203
 go_wp2_with fail
 refine (O1.out _ (HA.out.below N.out.be)).mono ?_
 rintro e w4 ⟨rfl, hb⟩; have N4 := Lib.hid (N.out.below hb); clear hb N
 go_wp2_with fail
 refine (HM.out _ N4.out).mono ?_
 rintro e w5 ⟨A2, c2, rfl, ho, hb⟩; have O := Lib.hid ho; have N5 := Lib.hid (N4.out.below hb); have L4 := N4.out.r2.lt; clear ho hb; have x3 := N5.out.r2.cell; have g3 := N5.out.r2.free; have t3 := N5.out.r2.lt; go_wp2
 refine bodyPost_ret (Pe rfl rfl (N5.out.r2.cO _ _ _)) rfl ⟨_, rfl, ?_, Below.cO N5.out.be (by omega) _ _ _⟩
 exact (O.out.cO (by omega) _ _ _).lower (by omega)
def FM (c1 c2 : Nat) (l m : List Int) (i k : Nat) : Nat → Int × Bool
 | 0 => (0, false)
 | j + 1 =>
   let p := jE (l.getD (i * c1 + j) 0) (m.getD (j * c2 + k) 0)
   let t := iL (FM c1 c2 l m i k j).1 p.1
   (t.1, (FM c1 c2 l m i k j).2 || p.2 || t.2)
def mulL (r c1 c2 : Nat) (l m : List Int) : List Int := upto c2 (fun i k => (FM c1 c2 l m i k c1).1) r
def sW (r c1 c2 : Nat) (l m : List Int) : Bool := vZ c2 (fun i k => (FM c1 c2 l m i k c1).2) r
theorem Qj (r c1 c2 : Nat) (A A' : Option Addr) (cp cp' g : Nat) (l m : List Int) (w : World) (hr : r ≤ 8) (hc1 : c1 ≤ 8) (hc2 : c2 ≤ 8) (hl : l.length = r * c1) (hm : m.length = c1 * c2) (hA : Rd w A l) (hA' : Rd w A' m)
 (R : Row w g 29 #[I r, I c1, (.slice A l.length cp)]) (R' : Row w (g + 1) 29 #[I c1, I c2, (.slice A' m.length cp')]) :
 zl w 186 #[.pointer (some ⟨g, 0, none⟩), .pointer (some ⟨g + 1, 0, none⟩)] r c2 (fun i k => (FM c1 c2 l m i k c1).1) (fun i k => (FM c1 c2 l m i k c1).2) := by
 intro i k w' hi hk hb; have R1 := Lib.hid (R.below hb R.lt); have R2 := Lib.hid (R'.below hb R'.lt); have hle : r * c1 ≤ 8 * 8 := Nat.mul_le_mul hr hc1; have hle2 : c1 * c2 ≤ 8 * 8 := Nat.mul_le_mul hc1 hc2; have H1 := Lib.hid (fun w' j h (hj : j < c1) => lH r c1 A cp l i j w' h (by rw [hl]; exact jK hi hj) (by rw [hl]; omega)); have H2 := Lib.hid (fun w' j h (hj : j < c1) => lH c1 c2 A' cp' m j k w' h (by rw [hm]; exact jK hj hk) (by rw [hm]; omega)); have A1 := Lib.hid (hA.below hb); have A2 := Lib.hid (hA'.below hb); have HC := Lib.hid hc1
 show Calls Tryz.prog 186 #[I i, I k, .pointer (some ⟨g, 0, none⟩), .pointer (some ⟨g + 1, 0, none⟩)] w' fun e w'' => e = .returned (.tuple #[I (FM c1 c2 l m i k c1).1, .bool (FM c1 c2 l m i k c1).2]) ∧ Below w'.heap.size w' w''
 obtain ⟨f, hf⟩ : ∃ f, FM c1 c2 l m i k = f := ⟨_, rfl⟩
 have hs : ∀ j, f (j + 1) = ((iL (f j).1 (jE (l.getD (i * c1 + j) 0) (m.getD (j * c2 + k) 0)).1).1, (f j).2 || (jE (l.getD (i * c1 + j) 0) (m.getD (j * c2 + k) 0)).2 || (iL (f j).1 (jE (l.getD (i * c1 + j) 0) (m.getD (j * c2 + k) 0)).1).2) := fun j => by subst hf; rfl
 have h0 : f 0 = (0, false) := by subst hf; rfl
 rw [hf]; have HF := Lib.hid hs; have H0 := Lib.hid h0; clear hb R R' hA hA' hr hc1 hc2 hle hle2 hl hm hf hs h0; have K : Hid (∀ w2, Below w'.heap.size w' w2 → (∀ o, w2.cell? ⟨g, o, none⟩ = #[I r, I c1, (.slice A l.length cp)][o]?) ∧ (∀ o, w2.cell? ⟨g + 1, o, none⟩ = #[I c1, I c2, (.slice A' m.length cp')][o]?)) := Lib.hid (fun w2 hb => ⟨(R1.out.below hb R1.out.lt).cell, (R2.out.below hb R2.out.lt).cell⟩); have B0 := Lib.hid (Below.refl w'.heap.size w'); have x2 := R1.out.cell; have x3 := R2.out.cell; clear R1 R2
 go_enter Tryz.func186, Tryz.ntmps186
 go_wp2_with fail
 go_loopw [8, 9, 17] (fun su od jj wr => ∃ (j : Nat) (sv : Int) (ov : Bool), j ≤ c1 ∧ jj = .int .i64 j ∧ su = .int .i64 sv ∧ od = .bool ov ∧ Hid (f j = (sv, ov)) ∧ Hid (Below w'.heap.size w' wr)) (fun _ _ jj _ => c1 - (intOf jj).toNat)
 case atStart => exact ⟨0, 0, false, by omega, rfl, rfl, rfl, Lib.hid H0.out, B0⟩
 case round =>
  clear B0; obtain ⟨j, sv, ov, hj, rfl, rfl, rfl, F, B0⟩ := hrel; clear x2 x3; have x2 := (K.out _ B0.out).1; have x3 := (K.out _ B0.out).2
  by_cases hjc : j = c1
  · subst hjc
    go_wp2
    go_ret2
    exact ⟨by rw [F.out]; rfl, B0.out⟩
  have hlt : (j : Int) < c1 := by omega
  have HJ := Lib.hid (show j < c1 by omega); have STEP : Hid (j + 1 ≤ c1 ∧ c1 - (j + 1) < c1 - j) := Lib.hid (by omega)
  have hw64 : IntKind.i64.wrap ((j : Int) + 1) = (j : Int) + 1 := by have := HC.out; simp [IntKind.wrap, IntKind.bits, IntKind.signed]; omega
  obtain ⟨x, hx⟩ : ∃ x, l.getD (i * c1 + j) 0 = x := ⟨_, rfl⟩
  obtain ⟨y, hy⟩ : ∃ y, m.getD (j * c2 + k) 0 = y := ⟨_, rfl⟩
  obtain ⟨p, hp⟩ : ∃ p, jE x y = p := ⟨_, rfl⟩
  obtain ⟨p1, p2⟩ := p
  obtain ⟨t, ht⟩ : ∃ t, iL sv p1 = t := ⟨_, rfl⟩
  obtain ⟨t1, t2⟩ := t; have F2 : Hid (f (j + 1) = (t1, ov || p2 || t2)) := Lib.hid (by rw [HF.out, F.out, hx, hy, hp]; dsimp only; rw [ht]); have G1 := Lib.hid (fun w' h => H1.out w' j h HJ.out); have G2 := Lib.hid (fun w' h => H2.out w' j h HJ.out); have G3 := Lib.hid (fun w => gJ x y w); have G4 := Lib.hid (fun w => pK sv p1 w); rw [hx] at G1; rw [hy] at G2; rw [hp] at G3; rw [ht] at G4; dsimp only at G3 G4; clear hx hy hp ht hj hjc; have B1 := Lib.hid B0.out.drew
  go_wp2_with fail
  go_region_held3 (fun w2 => (∀ o, w2.cell? ⟨g, o, none⟩ = #[I r, I c1, (.slice A l.length cp)][o]?) ∧ (∀ o, w2.cell? ⟨g + 1, o, none⟩ = #[I c1, I c2, (.slice A' m.length cp')][o]?))
   (first | with_reducible exact K.out _ B4.out | with_reducible exact K.out _ B3.out | with_reducible exact K.out _ B2.out | with_reducible exact K.out _ B1.out | with_reducible exact K.out _ B0.out)
   (first
     | (go_at_call 92
        refine (G3.out _).mono ?_
        rintro e w4 ⟨rfl, hb⟩; have B4 := Lib.hid (B3.out.trans (hb.mono B3.out.size))
        clear hb)
     | (go_at_call 134
        refine (G2.out _ (A2.out.below B2.out)).mono ?_
        rintro e w3 ⟨rfl, hb⟩; have B3 := Lib.hid (B2.out.trans (hb.mono B2.out.size))
        clear hb)
     | (go_at_call 134
        refine (G1.out _ (A1.out.below B1.out)).mono ?_
        rintro e w2 ⟨rfl, hb⟩; have B2 := Lib.hid (B1.out.trans (hb.mono B1.out.size))
        clear hb))
  go_wp2_with fail
  refine (G4.out _).mono ?_
  rintro e w5 ⟨rfl, hb⟩; have B5 := Lib.hid (B4.out.trans (hb.mono B4.out.size)); clear hb
  cases ov
  · cases p2
    all_goals
     go_wp2
     go_roundw
     case rel => exact ⟨j + 1, t1, _, STEP.out.1, by go_num, rfl, rfl, by simpa using F2, B5⟩
     case measure =>
      have h := STEP.out.2; show c1 - ((j : Int) + 1).toNat < c1 - ((j : Int)).toNat; rw [show ((j : Int) + 1).toNat = j + 1 by omega, show ((j : Int)).toNat = j by omega]; exact h
  · go_wp2
    go_roundw
    case rel => exact ⟨j + 1, t1, _, STEP.out.1, by go_num, rfl, rfl, by simpa using F2, B5⟩
    case measure =>
     have h := STEP.out.2; show c1 - ((j : Int) + 1).toNat < c1 - ((j : Int)).toNat; rw [show ((j : Int) + 1).toNat = j + 1 by omega, show ((j : Int)).toNat = j by omega]; exact h
theorem yO (r c1 c2 : Nat) (A A' : Option Addr) (cp cp' : Nat) (l m : List Int) (w : World) (hr : r ≤ 8) (hc1 : c1 ≤ 8) (hc2 : c2 ≤ 8) (hl : l.length = r * c1) (hm : m.length = c1 * c2) (hA : Rd w A l) (hA' : Rd w A' m) :
 Calls Tryz.prog 152 #[.agg #[I r, I c1, (.slice A l.length cp)], .agg #[I c1, I c2, (.slice A' m.length cp')]] w fun e w' => ∃ v, e = .returned (.tuple #[.agg #[I r, I c2, v], .bool (sW r c1 c2 l m), I 0]) ∧ Own w' w.heap.size v (mulL r c1 c2 l m) ∧ Below w.heap.size w w' := by
 have N : Hid (aY w [(29, #[I r, I c1, (.slice A l.length cp)]), (29, #[I c1, I c2, (.slice A' m.length cp')]), (29, #[I 0, I 0, .slice none 0 0])] (((w.alloc (.cells #[I r, I c1, (.slice A l.length cp)] 29)).alloc (.cells #[I c1, I c2, (.slice A' m.length cp')] 29)).alloc (.cells #[I 0, I 0, .slice none 0 0] 29))) := Lib.hid ((((aY.none w).push (by simp) _ _).push (by simp) _ _).push (by simp) _ _)
 obtain ⟨L, hL⟩ : ∃ L, mulL r c1 c2 l m = L := ⟨_, rfl⟩
 obtain ⟨b, hb⟩ : ∃ b, sW r c1 c2 l m = b := ⟨_, rfl⟩
 have HM := Lib.hid (sZ 186 #[.pointer (some ⟨w.heap.size, 0, none⟩), .pointer (some ⟨w.heap.size + 1, 0, none⟩)] r c2 _ _ _ L b hL hb hr hc2 UI (Qj r c1 c2 A A' cp cp' w.heap.size l m _ hr hc1 hc2 hl hm (hA.below N.out.be) (hA'.below N.out.be) N.out.r0 N.out.r1)); rw [hL, hb]; clear hr hc1 hc2 hl hm hA hA' hL hb; have hmf := hmf
 have e1 : ((c1 : Int) != (c1 : Int)) = false := by simp
 go_enter Tryz.func152, Tryz.ntmps152
 go_wp2_with fail
 refine HM.out.mono ?_
 rintro e w5 ⟨A2, c3, rfl, ho, hb⟩; have O := Lib.hid ho; have N5 := Lib.hid (N.out.below hb); clear ho hb N HM; have x3 := N5.out.r2.cell; have g3 := N5.out.r2.free; have t3 := N5.out.r2.lt; go_wp2
 refine bodyPost_ret (uU rfl rfl ((N5.out.r2.cO _ _ _).alloc _)) rfl ⟨_, rfl, ?_, (Below.cO N5.out.be (by omega) _ _ _).alloc (by have := N5.out.be.size; simp; omega) _⟩
 exact ((O.out.cO (by simp) _ _ _).alloc _).lower (by simp; omega)
theorem JW (r c1 r2 c2 : Int) (A A' : Option Addr) (cp cp' : Nat) (l m : List Int) (w : World) (hne : c1 ≠ r2) :
 Calls Tryz.prog 152 #[.agg #[I r, I c1, (.slice A l.length cp)], .agg #[I r2, I c2, (.slice A' m.length cp')]] w fun e w' => e = .returned (.tuple #[.agg #[I 0, I 0, .slice none 0 0], .bool false, I 9]) ∧ Below w.heap.size w w' := by
 have N : Hid (aY w [(29, #[I r, I c1, (.slice A l.length cp)]), (29, #[I r2, I c2, (.slice A' m.length cp')]), (29, #[I 0, I 0, .slice none 0 0])] (((w.alloc (.cells #[I r, I c1, (.slice A l.length cp)] 29)).alloc (.cells #[I r2, I c2, (.slice A' m.length cp')] 29)).alloc (.cells #[I 0, I 0, .slice none 0 0] 29))) := Lib.hid ((((aY.none w).push (by simp) _ _).push (by simp) _ _).push (by simp) _ _)
 have e1 : (c1 != r2) = true := by simpa using hne
 clear hne; have x3 := N.out.r2.cell; have g3 := N.out.r2.free
 go_enter Tryz.func152, Tryz.ntmps152
 go_wp2
 exact bodyPost_ret (uU rfl rfl N.out.r2) rfl ⟨rfl, N.out.be⟩
end Go.Proofs.YtcfobekkchhbbaaGreat.KK

namespace Go.Proofs.YtcfobekkchhbbaaGreat.KK
open Go.RowKit Go.Proofs.af.aK Go.Proofs.af.aV Go.Proofs.af.aW
set_option linter.unusedVariables false
set_option linter.unusedSimpArgs false
def lU (q : Int) : Bool := decide (q < -70368744177664) || decide (q > 70368744177663)
theorem Np (q : Int) (w : World) : Calls Tryz.prog 130 #[I q] w fun e w' => e = .returned (.bool (lU q)) ∧ Below w.heap.size w w' := by
 by_cases h : q < -70368744177664
 · have h0 : decide (q < -70368744177664) = true := decide_eq_true h
   clear h
   go_enter Tryz.func130, Tryz.ntmps130
   go_wp2
   go_ret
   exact ⟨by simp [lU, h0], Below.refl _ _⟩
 · have h0 : decide (q < -70368744177664) = false := decide_eq_false h
   clear h
   go_enter Tryz.func130, Tryz.ntmps130
   go_wp2
   go_ret
   exact ⟨by simp [lU, h0], Below.refl _ _⟩
theorem take_any {l : List Int} {j : Nat} {x : Int} (h : l[j]? = some x) (ha : (l.take j).any lU = false) (hx : lU x = false) : (l.take (j + 1)).any lU = false := by
 rw [List.take_add_one, h, List.any_append, ha]
 simp [hx]
theorem aai {l : List Int} {j : Nat} {x : Int} (h : l[j]? = some x) (hx : lU x = true) : l.any lU = true :=
 List.any_eq_true.2 ⟨x, List.mem_of_getElem? h, hx⟩
theorem J3 (A : Option Addr) (c : Nat) (l : List Int) (w : World) (hw : Rd w A l) (hlen : l.length ≤ 1000000) :
 Calls Tryz.prog 78 #[.slice A l.length c, .func (.func 130) #[] #[]] w fun e w' => ∃ x, e = .returned (I x) ∧ decide (x ≥ 0) = l.any lU ∧ Below w.heap.size w w' := by
 have HW := Lib.hid hw; have HL := Lib.hid hlen; clear hw hlen
 go_enter Tryz.func78, Tryz.ntmps78
 go_wp2_with fail
 go_loopw [8] (fun i wr => ∃ k : Nat, k ≤ l.length ∧ i = .int .i64 k ∧ Hid ((l.take k).any lU = false) ∧ Hid (Below w.heap.size w wr)) (fun i _ => l.length - (intOf i).toNat)
 case atStart => exact ⟨0, by omega, rfl, Lib.hid (by simp), Lib.hid (Below.refl _ _)⟩
 case round =>
  obtain ⟨k, hk, rfl, F, HB⟩ := hrel
  by_cases hkl : k = l.length
  · subst hkl
    go_wp2
    go_ret
    exact ⟨_, rfl, by have := F.out; rw [List.take_length] at this; rw [this]; rfl, HB.out⟩
  have hlt : (k : Int) < l.length := by omega
  have hk0 : (0 : Int) ≤ k := by omega
  have STEP : Hid (k + 1 ≤ l.length ∧ l.length - (k + 1) < l.length - k) := Lib.hid (by omega)
  have hw64 : IntKind.i64.wrap ((k : Int) + 1) = (k : Int) + 1 := by have := HL.out; simp [IntKind.wrap, IntKind.bits, IntKind.signed]; omega
  obtain ⟨b, off, rfl, hb, hc⟩ := (HW.out.below HB.out).cells (by omega)
  obtain ⟨x, hx⟩ : ∃ x, l[k]? = some x := ⟨l[k]'(by omega), List.getElem?_eq_getElem (by omega)⟩
  have c0 := hc k x hx; have HX := Lib.hid hx; clear hc hx hk hkl
  go_wp2_with fail
  refine (Np x _).mono ?_
  rintro e w2 ⟨rfl, hb2⟩; have HB2 := Lib.hid (HB.out.trans (hb2.mono HB.out.size)); clear hb2
  cases hq : lU x
  · have HQ := Lib.hid hq
    clear hq; go_wp2
    go_roundw
    case rel => exact ⟨k + 1, STEP.out.1, by go_num, Lib.hid (take_any HX.out F.out HQ.out), HB2⟩
    case measure =>
     have h := STEP.out.2; show l.length - ((k : Int) + 1).toNat < l.length - ((k : Int)).toNat; rw [show ((k : Int) + 1).toNat = k + 1 by omega, show ((k : Int)).toNat = k by omega]; exact h
  · have HQ := Lib.hid hq
    clear hq; go_wp2
    go_ret
    exact ⟨_, rfl, by rw [aai HX.out HQ.out]; simp, HB2.out⟩
theorem Ez (A : Option Addr) (c : Nat) (l : List Int) (w : World) (hw : Rd w A l) (hlen : l.length ≤ 1000000) :
 Calls Tryz.prog 36 #[.slice A l.length c, .func (.func 130) #[] #[]] w fun e w' => e = .returned (.bool (l.any lU)) ∧ Below w.heap.size w w' := by
 have H := Lib.hid (J3 A c l w hw hlen); clear hw hlen
 go_enter Tryz.func36, Tryz.ntmps36
 go_wp2_with fail
 refine H.out.mono ?_
 rintro e w2 ⟨x, rfl, hx, hb⟩; have HB := Lib.hid hb; have HX := Lib.hid hx; clear hb hx; go_wp2
 go_ret
 exact ⟨by rw [← HX.out]; rfl, HB.out⟩
def ig (r c : Int) (l : List Int) : Bool := decide (r ≥ 1) && decide (r ≤ 8) && decide (c ≥ 1) && decide (c ≤ 8) && ((l.length : Int) == wrap64 (r * c)) && !l.any lU
theorem jG (r c : Int) (A : Option Addr) (cp : Nat) (l : List Int) (w : World) (hw : Rd w A l) :
 Calls Tryz.prog 80 #[.agg #[I r, I c, (.slice A l.length cp)]] w fun e w' => e = .returned (.bool (ig r c l)) ∧ Below w.heap.size w w' := by
 have N : Hid (aY w [(29, #[I r, I c, (.slice A l.length cp)])] (w.alloc (.cells #[I r, I c, (.slice A l.length cp)] 29))) := Lib.hid ((aY.none w).push (by simp) _ _); have HW := Lib.hid hw; clear hw
 cases h0 : decide (r ≥ 1)
 · go_enter Tryz.func80, Tryz.ntmps80
   go_wp2
   go_ret
   exact ⟨by simp [ig, *], N.out.be⟩
 cases h1 : decide (r ≤ 8)
 · go_enter Tryz.func80, Tryz.ntmps80
   go_wp2
   go_ret
   exact ⟨by simp [ig, *], N.out.be⟩
 cases h2 : decide (c ≥ 1)
 · go_enter Tryz.func80, Tryz.ntmps80
   go_wp2
   go_ret
   exact ⟨by simp [ig, *], N.out.be⟩
 cases h3 : decide (c ≤ 8)
 · go_enter Tryz.func80, Tryz.ntmps80
   go_wp2
   go_ret
   exact ⟨by simp [ig, *], N.out.be⟩
 cases h4 : ((l.length : Int) == wrap64 (r * c))
 · go_enter Tryz.func80, Tryz.ntmps80
   go_wp2
   go_ret
   exact ⟨by simp [ig, *], N.out.be⟩
 have hlen : l.length ≤ 1000000 := by
  have a0 := of_decide_eq_true h0; have a1 := of_decide_eq_true h1; have a2 := of_decide_eq_true h2; have a3 := of_decide_eq_true h3
  have a4 : (l.length : Int) = wrap64 (r * c) := by simpa using h4
  have b0 : 0 ≤ r * c := Int.mul_nonneg (by omega) (by omega); have b1 : r * c ≤ 8 * c := Int.mul_le_mul_of_nonneg_right (by omega) (by omega)
  unfold wrap64 at a4
  omega
 have H := Lib.hid (Ez A cp l _ (HW.out.below N.out.be) hlen)
 obtain ⟨b, hb⟩ : ∃ b, l.any lU = b := ⟨_, rfl⟩
 have HB := Lib.hid hb; rw [hb] at H; clear hb hlen
 go_enter Tryz.func80, Tryz.ntmps80
 go_wp2_with fail
 refine H.out.mono ?_
 rintro e w2 ⟨rfl, hb⟩; have N2 := Lib.hid (N.out.below hb); clear hb; go_wp2
 go_ret
 exact ⟨by simp [ig, HB.out, *], N2.out.be⟩
theorem Rd.flat {w : World} {ad : Addr} {l : List Int} (h : Rd w (some ad) l) : ∀ j u, (l.map I)[j]? = some u → w.cell? (ad.add j) = some u := by
 intro j u hj; rw [List.getElem?_map] at hj
 cases hx : l[j]? with
 | none => rw [hx] at hj; cases hj
 | some x =>
   rw [hx] at hj
   injection hj with hj
   subst hj
   have hl : j < l.length := by
    rcases Nat.lt_or_ge j l.length with h | h
    · exact h
    · rw [List.getElem?_eq_none h] at hx; cases hx
   obtain ⟨b, off, e, _, hc⟩ := h.cells (by omega)
   injection e with e
   subst e; have := hc j x hx
   unfold Addr.add
   by_cases h0 : j = 0
   · subst h0; simpa using this
   · rw [if_neg h0]; exact this
theorem KO (A : Option Addr) (c : Nat) (l : List Int) (w : World) (hw : Rd w A l) (hlen : l.length ≤ 1000000) (hA : A = none → l.length = 0 ∧ c = 0) :
 Calls Tryz.prog 75 #[.slice A l.length c] w fun e w' => ∃ v, e = .returned v ∧ Own w' w.heap.size v l ∧ Below w.heap.size w w' := by
 cases A with
 | none =>
   obtain ⟨hl, rfl⟩ := hA rfl; obtain rfl := List.eq_nil_of_length_eq_zero hl
   have he : ∀ w : World, (binOp .eql 27 (.slice none 0 0) (.slice none 0 0)).run Tryz.prog w = .ok (.bool true) w := fun _ => rfl
   go_enter Tryz.func75, Tryz.ntmps75
   go_wp2
   go_ret
   exact ⟨_, rfl, Own.nil _ _, Below.refl _ _⟩
 | some ad =>
   have HW := Lib.hid hw; have HL := Lib.hid hlen; clear hw hlen hA
   go_enter Tryz.func75, Tryz.ntmps75
   have he : ∀ w : World, (binOp .eql 27 (.slice (some ad) l.length c) (.slice none 0 0)).run Tryz.prog w = .ok (.bool false) w := fun _ => rfl
   obtain ⟨i0, hi0, hz0, hz1, hz2⟩ := info_parts MH
   go_wp2_with (at_builtin
                refine wpList_append_own_at _ rfl (.tmp 5) (.tmp 6) _ rfl w.heap.size 22 i0 _ 1 8 Tryz.underlying27 hi0 hz0 hz1 hz2 rfl (by omega) (.slice (some ⟨w.heap.size, 0, none⟩) 0 0) 0 [] rfl ?own ad l.length c (l.map I) rfl (by simp) ?news ?one ?h63 ?hby ?base ?_
                case own => exact ⟨rfl, .inr ⟨_, 0, #[], rfl, Nat.le_refl _, heap_alloc_new w _, Nat.le_refl _, by simp [maxLen], rfl, rfl⟩⟩
                case news => exact (HW.out.below ((Below.refl _ _).alloc (Nat.le_refl _) _)).flat
                case one => (intro u hu; simp at hu; obtain ⟨q, _, rfl⟩ := hu; rfl)
                case h63 => (have := HL.out; simp only [maxLen]; omega)
                case hby => (have := HL.out; omega)
                case base => simp
                intro v' w' hown hgrow hnil hat)
   go_ret
   exact ⟨v', rfl, Own.uX (by simpa using hown), ((Below.refl _ _).alloc (Nat.le_refl _) _).grown hgrow (by simp) (by intro k hk; simp [Value.ownBlock] at hk; omega)⟩
def gz (l : List Int) : List Int := upto l.length (fun i k => if i = k then l.getD i 0 else 0) l.length
theorem UK : Enters 129 := enters Tryz.func129 rfl rfl
theorem LV (A : Option Addr) (cp g : Nat) (l : List Int) (w : World) (hl : l.length ≤ 8) (hA : Rd w A l) (R : Row w g 27 #[(.slice A l.length cp)]) :
 zl w 129 #[.pointer (some ⟨g, 0, none⟩)] l.length l.length (fun i k => if i = k then l.getD i 0 else 0) (fun _ _ => false) := by
 intro i k w' hi hk hb; have R' := R.below hb R.lt; have x := R'.cell
 show Calls Tryz.prog 129 #[I i, I k, .pointer (some ⟨g, 0, none⟩)] w' fun e w'' => e = .returned (.tuple #[I (if i = k then l.getD i 0 else 0), .bool false]) ∧ Below w'.heap.size w' w''
 by_cases h : i = k
 · subst h
   rw [if_pos rfl]; obtain ⟨b, off, rfl, _, hc⟩ := (hA.below hb).cells (by omega); have c0 := hc i _ (iw hi)
   obtain ⟨y, hy⟩ : ∃ y, l.getD i 0 = y := ⟨_, rfl⟩
   rw [hy] at c0 ⊢
   have e0 : ((i : Int) == (i : Int)) = true := by simp
   have i0 : (0 : Int) ≤ i := by omega
   have i1 : (i : Int) < l.length := by omega
   clear hb hc hy hA hi hk hl R R'
   go_enter Tryz.func129, Tryz.ntmps129
   go_wp2
   go_ret2
   exact ⟨rfl, Below.refl _ _⟩
 · rw [if_neg h]
   have e0 : ((i : Int) == (k : Int)) = false := by simp; omega
   clear hb hA hi hk hl R R' h
   go_enter Tryz.func129, Tryz.ntmps129
   go_wp2
   go_ret2
   exact ⟨rfl, Below.refl _ _⟩
theorem Qv (l : List Int) (h1 : 1 ≤ l.length) (h8 : l.length ≤ 8) : ig 1 l.length l = !l.any lU := by
 have e : wrap64 (1 * (l.length : Int)) = l.length := by unfold wrap64; omega
 have e1 : decide ((l.length : Int) ≥ 1) = true := decide_eq_true (by omega); have e2 : decide ((l.length : Int) ≤ 8) = true := decide_eq_true (by omega); simp only [ig, e, e1, e2]
 simp
theorem zT (A : Option Addr) (cp : Nat) (l : List Int) (w : World) (hA : Rd w A l) (h1 : 1 ≤ l.length) (h8 : l.length ≤ 8) (ha : l.any lU = false) :
 Calls Tryz.prog 74 #[(.slice A l.length cp)] w fun e w' => ∃ v, e = .returned (.tuple #[.agg #[I l.length, I l.length, v], I 0]) ∧ Own w' w.heap.size v (gz l) ∧ Below w.heap.size w w' := by
 have N : Hid (aY w [(27, #[(.slice A l.length cp)]), (29, #[I 0, I 0, .slice none 0 0])] ((w.alloc (.cells #[(.slice A l.length cp)] 27)).alloc (.cells #[I 0, I 0, .slice none 0 0] 29))) := Lib.hid (((aY.none w).push (by simp) _ _).push (by simp) _ _); have e1 : decide ((l.length : Int) < 1) = false := decide_eq_false (by omega); have e2 : decide ((l.length : Int) > 8) = false := decide_eq_false (by omega); have H := Lib.hid (jG 1 l.length A cp l _ (hA.below N.out.be)); rw [Qv l (by omega) (by omega), ha] at H
 obtain ⟨L, hL⟩ : ∃ L, gz l = L := ⟨_, rfl⟩
 have HM := Lib.hid (fun w' (h : aY w [(27, #[(.slice A l.length cp)]), (29, #[I 0, I 0, .slice none 0 0])] w') => sZ 129 #[.pointer (some ⟨w.heap.size, 0, none⟩)] l.length l.length _ _ w' L false hL (Bg _ _) h8 h8 UK (LV A cp w.heap.size l w' h8 (hA.below h.be) h.r0)); rw [hL]; clear h1 h8 ha hA hL; have hmf := hmf
 go_enter Tryz.func74, Tryz.ntmps74
 go_wp2_with fail
 refine H.out.mono ?_
 rintro e w2 ⟨rfl, hb⟩; have N2 := Lib.hid (N.out.below hb); clear hb
 go_wp2_with fail
 refine (HM.out _ N2.out).mono ?_
 rintro e w5 ⟨A2, c2, rfl, ho, hb⟩; have O := Lib.hid ho; have N5 := Lib.hid (N2.out.below hb); have L4 := N2.out.r1.lt; clear ho hb; have x1 := N5.out.r1.cell; have g1 := N5.out.r1.free; have t1 := N5.out.r1.lt; go_wp2
 refine bodyPost_ret (Pe rfl rfl ((N5.out.r1.cO _ _ _).alloc _)) rfl ⟨_, rfl, ?_, (Below.cO N5.out.be (by omega) _ _ _).alloc (by have := N5.out.be.size; simp; omega) _⟩
 exact ((O.out.cO (by omega) _ _ _).alloc _).lower (by omega)
end Go.Proofs.YtcfobekkchhbbaaGreat.KK

namespace Go.Proofs.YtcfobekkchhbbaaGreat.KK
open Go.RowKit Go.Proofs.af.aK Go.Proofs.af.aV Go.Proofs.af.aW
set_option linter.unusedVariables false
set_option linter.unusedSimpArgs false
theorem pO (r c : Nat) (l : List Int) : (yB r c l).length = c * r := upto_length
def AV (n : Nat) (l : List Int) : List Int := iZ lD n n l (yB n n l)
theorem Q_ (n : Nat) (A : Option Addr) (cp : Nat) (l : List Int) (w : World) (hn : n ≤ 8) (hl : l.length = n * n) (hA : Rd w A l) (hcp : l.length ≤ cp) :
 Calls Tryz.prog 188 #[.agg #[I n, I n, .slice A l.length cp]] w fun e w' => ∃ v, e = .returned (.tuple #[.agg #[I n, I n, v], .bool (jU lD n n l (yB n n l)), I 0]) ∧ Own w' w.heap.size v (AV n l) ∧ Below w.heap.size w w' := by
 have N : Hid (aY w [(29, #[I n, I n, .slice A l.length cp]), (29, #[I 0, I 0, .slice none 0 0])] ((w.alloc (.cells #[I n, I n, .slice A l.length cp] 29)).alloc (.cells #[I 0, I 0, .slice none 0 0] 29))) := Lib.hid (((aY.none w).push (by simp) _ _).push (by simp) _ _); have HA := Lib.hid hA; have HT := Lib.hid (fun w' h => l7 n n A cp l w' hn hn hl h); have HE := Lib.hid (fun A' cp' w' h h' hc => Rf n n A A' cp cp' l (yB n n l) w' hn hn hl (pO n n l) h h' hcp hc)
 obtain ⟨T, hT⟩ : ∃ T, yB n n l = T := ⟨_, rfl⟩
 rw [hT] at HT HE
 unfold AV
 rw [hT]
 obtain ⟨L, hL⟩ : ∃ L, iZ lD n n l T = L := ⟨_, rfl⟩
 obtain ⟨b, hb⟩ : ∃ b, jU lD n n l T = b := ⟨_, rfl⟩
 rw [hL, hb] at HE; rw [hL, hb]; have KK : Hid (∀ w', aY w [(29, #[I n, I n, .slice A l.length cp]), (29, #[I 0, I 0, .slice none 0 0])] w' → ∀ o, w'.cell? ⟨w.heap.size, o, none⟩ = #[I n, I n, .slice A l.length cp][o]?) := Lib.hid (fun w' h => h.r0.cell); clear hn hl hA hcp hT hL hb; have y0 := N.out.r0.cell
 go_enter Tryz.func188, Tryz.ntmps188
 go_wp2_with fail
 go_region_held3 (fun w' => ∀ o, w'.cell? ⟨w.heap.size, o, none⟩ = #[I n, I n, .slice A l.length cp][o]?)
  (first | with_reducible exact KK.out _ N3.out | with_reducible exact KK.out _ N2.out | with_reducible exact KK.out _ N.out.drew | exact (Row.qy N3.out.r0 (C := w.heap.size + 1) (by simp)).cell)
  (first
    | (go_at_call 187
       refine (HE.out _ _ _ (HA.out.below N2.out.be) RT.out CT.out).mono ?_
       rintro e w3 ⟨A3, c3, rfl, ho, hb⟩; have O := Lib.hid ho; have N3 := Lib.hid (N2.out.below hb); have L3 := N2.out.r1.lt; have x1 := N3.out.r1.cell; have g1 := N3.out.r1.free
       clear hb ho)
    | (go_at_call 82
       refine (HT.out _ (HA.out.below N.out.drew.be)).mono ?_
       rintro e w2 ⟨v, rfl, ho, hb⟩; obtain ⟨A2, c2, rfl, ht, rt⟩ := ho.reads; have RT := Lib.hid rt; have CT := Lib.hid ht; have N2 := Lib.hid (N.out.drew.below hb)
       clear hb ho rt ht))
 all_goals
  go_wp2
  refine bodyPost_ret (uU rfl rfl (N3.out.r1.cO _ _ _)) rfl ⟨_, rfl, ?_, Below.cO N3.out.be (by omega) _ _ _⟩
  exact (O.out.cO (by omega) _ _ _).lower (by omega)
end Go.Proofs.YtcfobekkchhbbaaGreat.KK

namespace Go.Proofs.YtcfobekkchhbbaaGreat.KK
open Go.RowKit Go.Proofs.af.aK Go.Proofs.af.aV Go.Proofs.af.aW
set_option linter.unusedVariables false
set_option linter.unusedSimpArgs false
def xY : List Value → Nat → List Value → List Value
 | l, _, [] => l
 | l, o, v :: vs => xY (l.set o v) (o + 1) vs
theorem Row.setCells {B : Nat} {t : TypeId} : ∀ (vs : List Value) (o : Nat) (w : World) (arr : Array Value), Row w B t arr → ∃ Ry, Row (w.setCells B o vs) B t Ry ∧ Ry.toList = xY arr.toList o vs := by
 intro vs
 induction vs with
 | nil => intro o w arr h; exact ⟨arr, h, rfl⟩
 | cons v vs ih =>
   intro o w arr h; obtain ⟨Ry, h1, h2⟩ := ih (o + 1) _ _ (h.set o v); refine ⟨Ry, h1, ?_⟩
   rw [h2]
   simp [xY]
theorem dI {B n : Nat} {w0 : World} : ∀ (vs : List Value) (o : Nat) (w : World), Below n w0 w → n ≤ B → Below n w0 (w.setCells B o vs) := by
 intro vs
 induction vs with
 | nil => intro o w h _; exact h
 | cons v vs ih => intro o w h hB; exact ih (o + 1) _ (h.setCell (p := ⟨B, o, none⟩) hB v) hB
theorem Tc (a b : Value) : ∀ (k j m : Nat), k ≤ m → xY (List.replicate j a ++ List.replicate m b) j (List.replicate k a) = List.replicate (j + k) a ++ List.replicate (m - k) b := by
 intro k
 induction k with
 | zero => intro j m _; simp [xY]
 | succ k ih =>
   intro j m h
   obtain ⟨m', rfl⟩ : ∃ m', m = m' + 1 := ⟨m - 1, by omega⟩
   show xY ((List.replicate j a ++ List.replicate (m' + 1) b).set j a) (j + 1) (List.replicate k a) = _
   have e : (List.replicate j a ++ List.replicate (m' + 1) b).set j a = List.replicate (j + 1) a ++ List.replicate m' b := by
    rw [List.set_append_right _ _ (by simp)]; rw [List.length_replicate, Nat.sub_self, List.replicate_succ, List.set_cons_zero, show j + 1 = j + 1 from rfl, List.replicate_succ' (n := j), List.append_assoc]; rfl
   rw [e, ih (j + 1) m' (by omega), show j + 1 + k = j + (k + 1) by omega, show m' - k = m' + 1 - (k + 1) by omega]
def Rep (w : World) (B n : Nat) (q : Int) (j : Nat) : Prop := ∃ arr, Row w B 22 arr ∧ arr.toList = List.replicate j (I q) ++ List.replicate (n - j) (I 0)
theorem Rep.cell {w : World} {B n : Nat} {q : Int} {j : Nat} (h : Rep w B n q j) {x : Nat} (hx : x < j) : w.cell? ⟨B, x, none⟩ = some (I q) := by
 obtain ⟨arr, hr, ha⟩ := h; rw [hr.cell x, ← Array.getElem?_toList, ha, List.getElem?_append_left (by simpa using hx)]
 simp [hx]
theorem Rep.some {w : World} {B n : Nat} {q : Int} {j : Nat} (h : Rep w B n q j) {x : Nat} (hx : x < n) (hj : j ≤ n) : (w.cell? ⟨B, x, none⟩).isSome = true := by
 obtain ⟨arr, hr, ha⟩ := h
 have hs : arr.size = n := by rw [← Array.length_toList, ha]; simp; omega
 rw [hr.cell x, Array.getElem?_eq_getElem (by omega)]; rfl
theorem Rep.free {w : World} {B n : Nat} {q : Int} {j : Nat} (h : Rep w B n q j) (x : Nat) : w.frozen? ⟨B, x, none⟩ = false := by
 obtain ⟨arr, hr, _⟩ := h; exact hr.free x
theorem Rep.put {w : World} {B n : Nat} {q : Int} {j k : Nat} (h : Rep w B n q j) (hk : j + k ≤ n) : Rep (w.setCells B j (List.replicate k (I q))) B n q (j + k) := by
 obtain ⟨arr, hr, ha⟩ := h; obtain ⟨Ry, h1, h2⟩ := hr.setCells (List.replicate k (I q)) j; exact ⟨Ry, h1, by rw [h2, ha, Tc _ _ _ _ _ (by omega), show n - j - k = n - (j + k) by omega]⟩
theorem Rep.drew {w : World} {B n : Nat} {q : Int} {j : Nat} (h : Rep w B n q j) : Rep w.drew B n q j := h
theorem Rep.own {w : World} {B n base : Nat} {q : Int} (h : Rep w B n q n) (hb : base ≤ B) (hn : n ≤ 1000000) : Own w base (.slice (Option.some ⟨B, 0, none⟩) n n) (List.replicate n q) := by
 obtain ⟨arr, hr, ha⟩ := h
 have hs : arr.size = n := by rw [← Array.length_toList, ha]; simp
 have hl : (List.replicate n q).length = n := by simp
 refine Own.uX ⟨by rw [hl]; simp, .inr ⟨B, n, arr, by rw [hl], hb, hr, by rw [hl]; omega, by simp only [maxLen]; omega, by rw [hs]; omega, ?_⟩⟩
 rw [hl, Nat.mul_one, ha, Nat.sub_self]
 simp
theorem KN (w : World) (ty : TypeId) (B j dLen dCap b sLen sCap k : Nat) (q : Int) (hk : k = Nat.min sLen dLen)
 (hsrc : ∀ x, x < k → w.cell? ⟨b, x, none⟩ = some (I q)) (hc : ∀ x, x < k → (w.cell? ⟨B, j + x, none⟩).isSome = true) (hf : ∀ x, w.frozen? ⟨B, x, none⟩ = false) :
 (Builtin.copy_ #[27, 27] ty #[.slice (some ⟨B, j, none⟩) dLen dCap, .slice (some ⟨b, 0, none⟩) sLen sCap]).run Tryz.prog w = .ok (I k) (w.setCells B j (List.replicate k (I q))) := by
 have h := run_copy_cells (P := Tryz.prog) w 27 27 ty 22 B j dLen dCap ⟨b, 0, none⟩ sLen sCap (List.replicate k (I q)) Tryz.underlying27 (by kernel_rfl) (by simpa using hk)
  (fun x v hx => by
    rw [List.getElem?_replicate] at hx
    split at hx
    · injection hx with hx
      subst hx; have := hsrc x (by assumption)
      unfold Addr.add
      by_cases h0 : x = 0
      · subst h0; simpa using this
      · rw [if_neg h0]; simpa using this
    · cases hx)
  (fun x hx => hc x (by simpa using hx)) (fun x hx => hf _) (fun v hv => by rw [List.eq_of_mem_replicate hv]; rfl)
 simpa [goInt] using h
theorem Qp (w : World) {ops : Array Oper} {o : Oper} {a : Act} {K : Act → World → Prop} {Q : Exit → Act → World → Prop} {E : Prop} (hg : o.guard = none) (d s : Operand)
 (hop : o.op = .call { callee := .builtin .copy, args := #[d, s], argTypes := #[27, 27] })
 (B j dLen dCap b sLen sCap k : Nat) (q : Int) (hd : a.eval d = .slice (some ⟨B, j, none⟩) dLen dCap) (hs : a.eval s = .slice (some ⟨b, 0, none⟩) sLen sCap) (hk : k = Nat.min sLen dLen)
 (hsrc : ∀ x, x < k → w.cell? ⟨b, x, none⟩ = some (I q)) (hc : ∀ x, x < k → (w.cell? ⟨B, j + x, none⟩).isSome = true) (hf : ∀ x, w.frozen? ⟨B, x, none⟩ = false)
 (hK : K (a.put o.dst (I k)) (w.setCells B j (List.replicate k (I q)))) :
 if Region.wanted o (yielded ops a.tmps) = true then Oper.wp Tryz.prog o a w K Q else E := by
 have hw : Region.wanted o (yielded ops a.tmps) = true := by simp [Region.wanted, hg]
 rw [if_pos hw]; have hrun := KN w o.type B j dLen dCap b sLen sCap k q hk hsrc hc hf
 unfold Oper.wp execOp
 simp only [hop, resolve, invoke, builtin, Sem.run_bind, Sem.run_pure, Result.andThen_ok, List.map_toArray, List.map_cons, List.map_nil, hd, hs, hrun]; exact hK
theorem Gj (w : World) (n : Nat) (hn : n ≤ 1000000) : (Instr.makeSlice 27 (.int .i64 n) (.int .i64 n)).run Tryz.prog w = .ok (.slice (some ⟨w.heap.size, 0, none⟩) n n) (w.alloc (.cells (madeCells #[I 0] n) 22)) := by
 obtain ⟨i0, hi0, hz0, hz1, hz2⟩ := info_parts MH; have := run_make (P := Tryz.prog) w 27 22 i0 (I 0) Tryz.underlying27 hi0 hz0 .i64 .i64 n n (by omega) (Int.le_refl _) (by rw [hz2]; omega) (by omega); rw [hz1] at this
 simpa [Value.cells] using this
theorem QN (n : Nat) : (madeCells #[I 0] n).toList = List.replicate n (I 0) := by
 unfold madeCells
 apply List.ext_getElem
 · simp
 · intro i h1 h2
   simp at h1 ⊢
   rw [Nat.mod_one]; rfl
theorem H_ (b n : Nat) (q : Int) (w : World) (hb : w.cell? ⟨b, 0, none⟩ = some (I q)) (h1 : 1 ≤ n) (h8 : n ≤ 8) :
 Calls Tryz.prog 210 #[.slice (some ⟨b, 0, none⟩) 1 1, I n] w fun e w' => ∃ A c, e = .returned (.slice A n c) ∧ Own w' w.heap.size (.slice A n c) (List.replicate n q) ∧ Below w.heap.size w w' := by
 have hm : PQ.bits_Mul.f 1 (n : Int) = some ((0 : Int), (n : Int)) := by
  rcases (show n = 1 ∨ n = 2 ∨ n = 3 ∨ n = 4 ∨ n = 5 ∨ n = 6 ∨ n = 7 ∨ n = 8 by omega) with h | h | h | h | h | h | h | h <;> subst h <;> decide +kernel
 have HM := Lib.hid (fun w => PQ.bits_Mul.calls 1 n 0 n w hm); have e0 : decide ((n : Int) < 0) = false := decide_eq_false (by omega); have e1 : decide ((n : Int) > 9223372036854775807) = false := decide_eq_false (by omega)
 have e2 : IntKind.u64.wrap (n : Int) = n := by simp [IntKind.wrap, IntKind.bits, IntKind.signed]; omega
 have e3 : IntKind.i64.wrap (n : Int) = n := by simp [IntKind.wrap, IntKind.bits, IntKind.signed]; omega
 have H1 := Lib.hid h1; have H8 := Lib.hid h8; have HB := Lib.hid hb; clear hm h1 h8 hb
 go_enter Tryz.func210, Tryz.ntmps210
 go_wp2_with fail
 refine (HM.out _).mono ?_
 rintro e w2 ⟨rfl, hd⟩; have D2 := Lib.hid hd.below; clear hd; have hz := Gj w2 n (by have := H8.out; omega); have R0 : Hid (Rep (w2.alloc (.cells (madeCells #[I 0] n) 22)) w2.heap.size n q 0) := Lib.hid ⟨_, Row.new _ _ _, by rw [QN]; simp⟩; have B2 : Hid (Below w.heap.size w (w2.alloc (.cells (madeCells #[I 0] n) 22))) := Lib.hid (D2.out.alloc D2.out.size _); have S2 : Hid (w.heap.size ≤ w2.heap.size) := Lib.hid D2.out.size; have hb2 : Hid ((w2.alloc (.cells (madeCells #[I 0] n) 22)).cell? ⟨b, 0, none⟩ = some (I q)) := Lib.hid ((B2.out.cell (p := ⟨b, 0, none⟩) (cell_lt HB.out)).trans HB.out)
 have hx0 : ∀ x, x < 1 → (w2.alloc (.cells (madeCells #[I 0] n) 22)).cell? ⟨b, x, none⟩ = some (I q) := by
  intro x hx
  have : x = 0 := by omega
  subst this; exact hb2.out
 have hx1 : ∀ x, x < 1 → ((w2.alloc (.cells (madeCells #[I 0] n) 22)).cell? ⟨w2.heap.size, 0 + x, none⟩).isSome = true := by
  intro x hx; have := H1.out; exact R0.out.some (by omega) (by omega)
 have hx2 : 1 = Nat.min 1 n := (Nat.min_eq_left H1.out).symm; have hcp := KN (w2.alloc (.cells (madeCells #[I 0] n) 22)) 3 w2.heap.size 0 n n b 1 1 1 q hx2 hx0 hx1 R0.out.free; clear hx0 hx1 hx2; have R1 := Lib.hid (R0.out.put (k := 1) (by have := H1.out; omega)); have B3 := Lib.hid (dI (B := w2.heap.size) (List.replicate 1 (I q)) 0 _ B2.out S2.out)
 obtain ⟨w3, hw3⟩ : ∃ w3, (w2.alloc (.cells (madeCells #[I 0] n) 22)).setCells w2.heap.size 0 (List.replicate 1 (I q)) = w3 := ⟨_, rfl⟩
 rw [hw3] at hcp R1 B3; clear hw3
 go_wp2_with fail
 clear hcp hz R0 B2 hb2 D2
 go_loopw [8] (fun jj wr => ∃ j : Nat, 1 ≤ j ∧ j ≤ n ∧ jj = .int .i64 j ∧ Hid (Rep wr w2.heap.size n q j) ∧ Hid (Below w.heap.size w wr)) (fun jj _ => n - (intOf jj).toNat)
 case atStart => exact ⟨1, by omega, H1.out, rfl, by simpa using R1, B3⟩
 case round =>
  clear R1 B3; obtain ⟨j, h1, hj, rfl, R, HB⟩ := hrel
  by_cases hjn : j = n
  · subst hjn
    go_wp2
    go_ret
    exact ⟨_, _, rfl, R.out.own S2.out (by have := H8.out; omega), HB.out⟩
  have hlt : (j : Int) < n := by omega
  have hj0 : (0 : Int) ≤ j := by omega
  have hjle : (j : Int) ≤ n := by omega
  have hne : ¬ n = j := by omega
  obtain ⟨k, hk⟩ : ∃ k, Nat.min j (n - j) = k := ⟨_, rfl⟩
  have hk2 : k ≤ j ∧ k ≤ n - j ∧ 1 ≤ k := by subst hk; exact ⟨Nat.min_le_left _ _, Nat.min_le_right _ _, Nat.le_min.2 ⟨h1, by omega⟩⟩
  have STEP : Hid (1 ≤ j + k ∧ j + k ≤ n ∧ n - (j + k) < n - j) := Lib.hid (by omega)
  have hw64 : IntKind.i64.wrap ((j : Int) + k) = ((j + k : Nat) : Int) := by have := H8.out; simp [IntKind.wrap, IntKind.bits, IntKind.signed]; omega
  have HK := Lib.hid hk; have Jz := Lib.hid hk2; have HJ := Lib.hid (show 1 ≤ j ∧ j < n by omega); clear hk hk2 h1 hj hjn
  have hq0 : ∀ x, x < k → wr.drew.cell? ⟨w2.heap.size, x, none⟩ = some (I q) := fun x hx => R.out.drew.cell (by have := Jz.out; omega)
  have hq1 : ∀ x, x < k → (wr.drew.cell? ⟨w2.heap.size, j + x, none⟩).isSome = true := fun x hx => R.out.drew.some (by have := Jz.out; have := HJ.out; omega) (by have := HJ.out; omega)
  have Q0 := Lib.hid hq0; have Q1 := Lib.hid hq1; clear hq0 hq1
  go_wp2_with fail
  go_region_held3 (fun w' => True)
   (first | trivial)
   (first
     | (refine Qp _ rfl (.tmp 41) (.tmp 44) rfl w2.heap.size j (n - j) (n - j) w2.heap.size j n k q rfl rfl HK.out.symm Q0.out Q1.out R.out.drew.free ?_
        have R2 := Lib.hid (R.out.drew.put (k := k) (by have := STEP.out; omega)); have HB2 := Lib.hid (dI (B := w2.heap.size) (List.replicate k (I q)) j _ HB.out.drew S2.out)
        generalize wr.drew.setCells w2.heap.size j (List.replicate k (I q)) = w4 at R2 HB2 ⊢))
  all_goals
   go_wp2
   go_roundw
   case rel => exact ⟨j + k, STEP.out.1, STEP.out.2.1, by go_num, R2, HB2⟩
   case measure =>
    have h := STEP.out.2.2; show n - ((j + k : Nat) : Int).toNat < n - ((j : Int)).toNat; rw [Int.toNat_natCast, Int.toNat_natCast]; exact h
def nY (n : Nat) : List Int := gz (List.replicate n 16777216)
theorem Q9 (n : Nat) (w : World) (h1 : 1 ≤ n) (h8 : n ≤ 8) :
 Calls Tryz.prog 204 #[I n] w fun e w' => ∃ v, e = .returned (.tuple #[.agg #[I n, I n, v], I 0]) ∧ Own w' w.heap.size v (nY n) ∧ Below w.heap.size w w' := by
 have N : Hid (aY w [(29, #[I 0, I 0, .slice none 0 0]), (22, #[I 16777216])] ((w.alloc (.cells #[I 0, I 0, .slice none 0 0] 29)).alloc (.cells #[I 16777216] 22))) := Lib.hid (((aY.none w).push (by simp) _ _).push (by simp) _ _); have e1 : decide ((n : Int) < 1) = false := decide_eq_false (by omega); have e2 : decide ((n : Int) > 8) = false := decide_eq_false (by omega); have HR := Lib.hid (H_ (w.heap.size + 1) n 16777216 _ (N.out.r1.cell 0) h1 h8)
 have hany : (List.replicate n (16777216 : Int)).any lU = false := by
  rw [List.any_eq_false]; intro x hx; rw [List.eq_of_mem_replicate hx]
  decide
 have hlen : (List.replicate n (16777216 : Int)).length = n := by simp
 have HD := Lib.hid (fun A c w' h => zT A c (List.replicate n 16777216) w' h (by rw [hlen]; exact h1) (by rw [hlen]; exact h8) hany)
 obtain ⟨L, hL⟩ : ∃ L, nY n = L := ⟨_, rfl⟩
 rw [hL]
 unfold nY at hL
 rw [hlen, hL] at HD; clear h1 h8 hany hlen hL
 go_enter Tryz.func204, Tryz.ntmps204
 go_wp2_with fail
 refine HR.out.mono ?_
 rintro e w2 ⟨A, c, rfl, ho, hb⟩; have N2 := Lib.hid (N.out.below hb); obtain ⟨A', c', he, _, hr⟩ := ho.reads
 injection he with e1 e2 e3
 subst e1 e3; have HR2 := Lib.hid hr; clear hb ho hr e2 HR
 go_wp2_with fail
 refine (HD.out _ _ _ HR2.out).mono ?_
 rintro e w3 ⟨v, rfl, ho, hb⟩; obtain ⟨A3, c3, rfl, _, _⟩ := ho.reads; have O := Lib.hid ho; have N3 := Lib.hid (N2.out.below hb); have L2 := N2.out.r1.lt; clear hb ho; have x0 := N3.out.r0.cell; have g0 := N3.out.r0.free; have t0 := N3.out.r0.lt; go_wp2
 refine bodyPost_ret (Pe rfl rfl (N3.out.r0.cO _ _ _)) rfl ⟨_, rfl, ?_, Below.cO N3.out.be (by omega) _ _ _⟩
 exact (O.out.cO (by omega) _ _ _).lower (by omega)
end Go.Proofs.YtcfobekkchhbbaaGreat.KK

namespace Go.Proofs.YtcfobekkchhbbaaGreat.PQ
open Go.RowKit Go.Proofs.af.aK Go.Proofs.af.aV Go.Proofs.af.aW Go.Proofs.YtcfobekkchhbbaaGreat.KK
set_option linter.unusedVariables false
set_option linter.unusedSimpArgs false
theorem TD {a b : Int} {n : Nat} (ha : 0 ≤ a) (hb : 0 ≤ b) (h : (n : Int) = a * b) : n = a.toNat * b.toNat := by
 obtain ⟨x, rfl⟩ := Int.eq_ofNat_of_zero_le ha; obtain ⟨y, rfl⟩ := Int.eq_ofNat_of_zero_le hb; simp only [Int.toNat_natCast]; exact_mod_cast h
theorem toInt {a : Int} (ha : 0 ≤ a) : ((a.toNat : Nat) : Int) = a := by omega
def jQ.f (aT : Int) (aZ : Int) (aX : List Int) : Option (Int × Int × List Int) := if 0 ≤ aT ∧ aT ≤ 8 ∧ 0 ≤ aZ ∧ aZ ≤ 8 ∧ (aX.length : Int) = aT * aZ then some (aZ, aT, yB aT.toNat aZ.toNat aX) else none
theorem jQ.calls (aT : Int) (aZ : Int) (bK : Option Addr) (bJ : Nat) (aX : List Int) (r1 : Int) (r2 : Int) (r3 : List Int) (w : World) (iW : Kd.C (Kd.int .i64) w bK aX.length aX) (jy : aX.length ≤ bJ) (h : jQ.f aT aZ aX = some (r1, r2, r3)) :
 Calls Tryz.prog 82 #[.agg #[.int .i64 aT, .int .i64 aZ, .slice bK aX.length bJ]] w fun e w' => ∃ JB : Value, e = .returned (.agg #[.int .i64 r1, .int .i64 r2, JB]) ∧ Kd.R (Kd.int .i64) 22 w' w.heap.size (fun _ => True) JB r3 ∧ Below w.heap.size w w' := by
 unfold jQ.f at h
 split at h
 · rename_i hs
   obtain ⟨s0, s1, s2, s3, s4⟩ := hs; simp only [Option.some.injEq, Prod.mk.injEq] at h; obtain ⟨rfl, rfl, rfl⟩ := h; have := l7 aT.toNat aZ.toNat bK bJ aX w (by omega) (by omega) (TD s0 s2 s4) iW; rw [toInt s0, toInt s2] at this; exact this
 · cases h
def jm.f (aT : Int) (aZ : Int) (aX : List Int) (bH : Int) (bI : Int) (bu : List Int) : Option (Int × Int × List Int × Bool × Int) :=
 if aZ = bH then (if (0 ≤ aT ∧ aT ≤ 8 ∧ 0 ≤ aZ ∧ aZ ≤ 8 ∧ (aX.length : Int) = aT * aZ) ∧ (0 ≤ bH ∧ bH ≤ 8 ∧ 0 ≤ bI ∧ bI ≤ 8 ∧ (bu.length : Int) = bH * bI) then some (aT, bI, mulL aT.toNat aZ.toNat bI.toNat aX bu, sW aT.toNat aZ.toNat bI.toNat aX bu, 0) else none) else some (0, 0, [], false, 9)
theorem jm.calls (aT : Int) (aZ : Int) (bK : Option Addr) (bJ : Nat) (aX : List Int) (bH : Int) (bI : Int) (eH : Option Addr) (eY : Nat) (bu : List Int) (r1 : Int) (r2 : Int) (r3 : List Int) (r4 : Bool) (r5 : Int) (w : World) (iW : Kd.C (Kd.int .i64) w bK aX.length aX) (jy : aX.length ≤ bJ) (mZ : Kd.C (Kd.int .i64) w eH bu.length bu) (nO : bu.length ≤ eY) (h : jm.f aT aZ aX bH bI bu = some (r1, r2, r3, r4, r5)) :
 Calls Tryz.prog 152 #[.agg #[.int .i64 aT, .int .i64 aZ, .slice bK aX.length bJ], .agg #[.int .i64 bH, .int .i64 bI, .slice eH bu.length eY]] w fun e w' => ∃ JB : Value, e = .returned (.tuple #[.agg #[.int .i64 r1, .int .i64 r2, JB], .bool r4, .int .i64 r5]) ∧ Kd.R (Kd.int .i64) 22 w' w.heap.size (fun _ => True) JB r3 ∧ Below w.heap.size w w' := by
 unfold jm.f at h
 split at h
 · rename_i he
   subst he
   split at h
   · rename_i hs
     obtain ⟨⟨s0, s1, s2, s3, s4⟩, t0, t1, t2, t3, t4⟩ := hs; simp only [Option.some.injEq, Prod.mk.injEq] at h; obtain ⟨rfl, rfl, rfl, rfl, rfl⟩ := h; have := yO aT.toNat aZ.toNat bI.toNat bK eH bJ eY aX bu w (by omega) (by omega) (by omega) (TD s0 s2 s4) (TD t0 t2 t4) iW mZ; rw [toInt s0, toInt s2, toInt t2] at this; exact this
   · cases h
 · rename_i he
   simp only [Option.some.injEq, Prod.mk.injEq] at h; obtain ⟨rfl, rfl, rfl, rfl, rfl⟩ := h; refine (JW aT aZ bH bI bK eH bJ eY aX bu w he).mono ?_
   rintro e w' ⟨rfl, hb⟩; exact ⟨_, rfl, Own.nil _ _, hb⟩
def pY.f (aT : Int) (aZ : Int) (aX : List Int) : Option (Int × Int × List Int × Bool × Int) := if aT = aZ ∧ 0 ≤ aT ∧ aT ≤ 8 ∧ 0 ≤ aZ ∧ aZ ≤ 8 ∧ (aX.length : Int) = aT * aZ then some (aT, aZ, AV aT.toNat aX, jU lD aT.toNat aT.toNat aX (yB aT.toNat aT.toNat aX), 0) else none
theorem pY.calls (aT : Int) (aZ : Int) (bK : Option Addr) (bJ : Nat) (aX : List Int) (r1 : Int) (r2 : Int) (r3 : List Int) (r4 : Bool) (r5 : Int) (w : World) (iW : Kd.C (Kd.int .i64) w bK aX.length aX) (jy : aX.length ≤ bJ) (h : pY.f aT aZ aX = some (r1, r2, r3, r4, r5)) :
 Calls Tryz.prog 188 #[.agg #[.int .i64 aT, .int .i64 aZ, .slice bK aX.length bJ]] w fun e w' => ∃ JB : Value, e = .returned (.tuple #[.agg #[.int .i64 r1, .int .i64 r2, JB], .bool r4, .int .i64 r5]) ∧ Kd.R (Kd.int .i64) 22 w' w.heap.size (fun _ => True) JB r3 ∧ Below w.heap.size w w' := by
 unfold pY.f at h
 split at h
 · rename_i hs
   obtain ⟨rfl, s0, s1, s2, s3, s4⟩ := hs; simp only [Option.some.injEq, Prod.mk.injEq] at h; obtain ⟨rfl, rfl, rfl, rfl, rfl⟩ := h; have := Q_ aT.toNat bK bJ aX w (by omega) (TD s0 s2 s4) iW jy; rw [toInt s0] at this; exact this
 · cases h
end Go.Proofs.YtcfobekkchhbbaaGreat.PQ

namespace Go.Proofs.YtcfobekkchhbbaaGreat.PR
open Go.RowKit Go.Proofs.YtcfobekkchhbbaaGreat.PQ Go.Proofs.af.aK Go.Proofs.af.aV Go.Proofs.af.aW
attribute [local go_sem] iH iF jJ jI gU gK iG iE
set_option linter.unusedVariables false
set_option linter.unusedSimpArgs false
def Uz : Option Int → Value
 | none => .nilIface
 | some c => .iface 0 (.int .i64 c)
theorem aO : Uz none = .nilIface := rfl
theorem aN (c : Int) : Uz (some c) = .iface 0 (.int .i64 c) := rfl
end Go.Proofs.YtcfobekkchhbbaaGreat.PR

