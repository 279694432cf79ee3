import Derived.Test.YtninmcmajbfccaaZ8
/- Joined by a program of this session's own (wip/pack.py) out of its texts; the parts PQ, PR, PS were laid by its own program (wip/print-patch.py over the kit's print) out of the translation; Lean checks all. -/
/- Layer 3: numbers' functions, totally; a matrix turned. -/
namespace Go.Proofs.Ytninmcmajbfccaa.KK
open Go.RowKit Go.Proofs.YtninmcmajbfccaaW.PrintWords Go.Proofs.YtninmcmajbfccaaW.PrintLast Go.Proofs.YtninmcmajbfccaaW.PrintMore
set_option linter.unusedVariables false
set_option linter.unusedSimpArgs false
def mulZ (a b : Int) : Int × Bool := PQ.flag (PQ.od a || PQ.od b) (PQ.sg (PQ.sz (PQ.cl a) * PQ.sz (PQ.cl b) / 309485009821345068724781056) (PQ.lw (PQ.sz (PQ.cl a) * PQ.sz (PQ.cl b))) ((decide (PQ.cl a < 0)) != (decide (PQ.cl b < 0))))
def addZ (a b : Int) : Int × Bool := (PQ.cl (PQ.cl a + PQ.cl b), (PQ.od a || PQ.od b) || PQ.od (PQ.cl a + PQ.cl b))
def subZ (a b : Int) : Int × Bool := (PQ.cl (PQ.cl a - PQ.cl b), (PQ.od a || PQ.od b) || PQ.od (PQ.cl a - PQ.cl b))
def halfZ (a b : Int) : Int × Bool := ((PQ.qfix_Half.f (wrap64 (a + b)) 1).getD 0, false)
theorem mul_calls (a b : Int) (w : World) : Calls Try.prog 35 #[I a, I b] w fun e w' => e = .returned (.tuple #[I (mulZ a b).1, .bool (mulZ a b).2]) ∧ Below w.heap.size w w' := PQ.qfix_Mul.calls a b _ _ w (PQ.mul_f a b)
theorem add_calls (a b : Int) (w : World) : Calls Try.prog 62 #[I a, I b] w fun e w' => e = .returned (.tuple #[I (addZ a b).1, .bool (addZ a b).2]) ∧ Below w.heap.size w w' := PQ.qfix_Add.calls a b _ _ w (PQ.add_f a b)
theorem sub_calls (a b : Int) (w : World) : Calls Try.prog 61 #[I a, I b] w fun e w' => e = .returned (.tuple #[I (subZ a b).1, .bool (subZ a b).2]) ∧ Below w.heap.size w w' := PQ.qfix_Sub.calls a b _ _ w (PQ.sub_f a b)
theorem half_some (a : Int) : ∃ h, PQ.qfix_Half.f a 1 = some h := by
  have e1 : mn (mx 1 0) 62 = 1 := by decide
  unfold PQ.qfix_Half.f
  rw [e1]
  repeat' split
  all_goals first | exact ⟨_, rfl⟩ | omega
theorem half_calls (a b : Int) (w : World) : Calls Try.prog 73 #[I a, I b] w fun e w' => e = .returned (.tuple #[I (halfZ a b).1, .bool (halfZ a b).2]) ∧ Below w.heap.size w w' := by
  obtain ⟨h, hh⟩ := half_some (wrap64 (a + b))
  have HH := Lib.hid (PQ.qfix_Half.calls _ 1 h · hh)
  unfold halfZ
  rw [hh]
  go_enter Try.func73, Try.ntmps73
  go_wp2_with fail
  refine (HH.out _).mono ?_
  rintro e w' ⟨rfl, hb⟩
  have HB := Lib.hid hb
  clear hb
  go_wp2
  go_ret2
  exact ⟨rfl, HB.out⟩
theorem idx_lt {r c i k : Nat} (hk : k < r) (hi : i < c) : k * c + i < r * c := by
  have : (k + 1) * c ≤ r * c := Nat.mul_le_mul_right c hk
  rw [Nat.succ_mul] at this
  omega
theorem tells_trans (r c : Nat) (A : Option Addr) (cp g : Nat) (l : List Int) (w : World) (hr : r ≤ 8) (hc : c ≤ 8) (hl : l.length = r * c) (hA : Rd w A l) (R : Row w g 26 #[I r, I c, .slice A l.length cp]) :
    Tells w 79 #[.pointer (some ⟨g, 0, none⟩)] c r (fun i k => l.getD (k * c + i) 0) (fun _ _ => false) := by
  intro i k w' hi hk hb
  have R' := R.below hb R.lt
  have x := R'.cell
  have hle : r * c ≤ 8 * 8 := Nat.mul_le_mul hr hc
  have HC := Lib.hid (at_calls r c A cp l k i w' (hA.below hb) (by rw [hl]; exact idx_lt hk hi) (by rw [hl]; omega))
  clear hb R R' hA hr hc hle hl
  show Calls Try.prog 79 #[I i, I k, .pointer (some ⟨g, 0, none⟩)] w' _
  go_enter Try.func79, Try.ntmps79
  go_wp2_with fail
  refine HC.out.mono ?_
  rintro e w2 ⟨rfl, hb⟩
  have HB := Lib.hid hb
  clear hb
  go_wp2
  go_ret2
  exact ⟨rfl, HB.out⟩
theorem made_to (n : Nat) (cap : Array Value) (r c : Nat) (q : Nat → Nat → Int) (o : Nat → Nat → Bool) (w : World) (L : List Int) (b : Bool) (hL : upto c q r = L) (hb : anyTo c o r = b) (hr : r ≤ 8) (hc : c ≤ 8) (he : Enters n) (ht : Tells w n cap r c q o) :
    Calls Try.prog 59 #[.agg #[I r, I c], .func (.func n) #[] cap] w fun e w' => ∃ A cp, e = .returned (.tuple #[.agg #[I r, I c, .slice A L.length cp], .bool b]) ∧ Own w' w.heap.size (.slice A L.length cp) L ∧ Below w.heap.size w w' := by
  subst hL hb
  refine (made_calls n cap r c q o w hr hc he ht).mono ?_
  rintro e w' ⟨v, rfl, ho, hb⟩
  obtain ⟨A, cp, rfl, _, _⟩ := ho.reads
  exact ⟨A, cp, rfl, ho, hb⟩
theorem anyTo_false (c r : Nat) : anyTo c (fun _ _ => false) r = false := by simp [anyTo]
def trL (r c : Nat) (l : List Int) : List Int := upto r (fun i k => l.getD (k * c + i) 0) c
theorem enters79 : Enters 79 := enters Try.func79 rfl rfl
theorem hmf (fn : Fn) (first cap : Array Value) (w : World) : (Instr.makeFunc fn first cap).run Try.prog w = .ok (.func fn first cap) w := rfl
set_option maxRecDepth 100000 in
set_option maxHeartbeats 4000000 in
theorem trans_calls (r c : Nat) (A : Option Addr) (cp : Nat) (l : List Int) (w : World) (hr : r ≤ 8) (hc : c ≤ 8) (hl : l.length = r * c) (hA : Rd w A l) :
    Calls Try.prog 41 #[.agg #[I r, I c, .slice A l.length cp]] w fun e w' => ∃ v, e = .returned (.agg #[I c, I r, v]) ∧ Own w' w.heap.size v (trL r c l) ∧ Below w.heap.size w w' := by
  have N : Hid (Scene w [(26, #[I r, I c, .slice A l.length cp]), (26, #[I 0, I 0, .slice none 0 0])] ((w.alloc (.cells #[I r, I c, .slice A l.length cp] 26)).alloc (.cells #[I 0, I 0, .slice none 0 0] 26))) := Lib.hid (((Scene.none w).push (by simp) _ _).push (by simp) _ _)
  obtain ⟨L, hL⟩ : ∃ L, trL r c l = L := ⟨_, rfl⟩
  have HM := Lib.hid (made_to 79 #[.pointer (some ⟨w.heap.size, 0, none⟩)] c r _ _ _ L false hL (anyTo_false _ _) hc hr enters79 (tells_trans r c A cp w.heap.size l _ hr hc hl (hA.below N.out.be) N.out.r0))
  rw [hL]
  clear hr hc hl hA hL
  have hmf := hmf
  go_enter Try.func41, Try.ntmps41
  go_wp2_with fail
  refine HM.out.mono ?_
  rintro e w2 ⟨A2, c2, rfl, ho, hb⟩
  have O := Lib.hid ho
  have N2 := Lib.hid (N.out.below hb)
  clear ho hb N HM
  have x1 := N2.out.r1.cell
  have g1 := N2.out.r1.free
  have t1 := N2.out.r1.lt
  go_wp2
  refine bodyPost_ret (res3 rfl rfl ((N2.out.r1.fill3 _ _ _).alloc _)) rfl ⟨_, rfl, ?_, (Below.fill3 N2.out.be (by omega) _ _ _).alloc (by have := N2.out.be.size; simp; omega) _⟩
  exact ((O.out.fill3 (by simp) _ _ _).alloc _).lower (by simp; omega)
end Go.Proofs.Ytninmcmajbfccaa.KK

/- Layer 3: two matrices, number by number; scaled; products. -/
namespace Go.Proofs.Ytninmcmajbfccaa.KK
open Go.RowKit Go.Proofs.YtninmcmajbfccaaW.PrintWords Go.Proofs.YtninmcmajbfccaaW.PrintLast Go.Proofs.YtninmcmajbfccaaW.PrintMore
set_option linter.unusedVariables false
set_option linter.unusedSimpArgs false
def eachL (f : Int → Int → Int × Bool) (r c : Nat) (l m : List Int) : List Int := upto c (fun i k => (f (l.getD (i * c + k) 0) (m.getD (i * c + k) 0)).1) r
def eachB (f : Int → Int → Int × Bool) (r c : Nat) (l m : List Int) : Bool := anyTo c (fun i k => (f (l.getD (i * c + k) 0) (m.getD (i * c + k) 0)).2) r
attribute [local go_sem high] PQ.eqA99
theorem of_calls (r c : Int) (A : Option Addr) (l : List Int) (cp : Nat) (w : World) (hA : Rd w A l) (hc : l.length ≤ cp) : Calls Try.prog 77 #[.agg #[I r, I c, .slice A l.length cp]] w fun e w' => e = .returned (.agg #[I r, I c]) ∧ Below w.heap.size w w' :=
  PQ.mat_of.calls r c A cp l r c w hA hc rfl
theorem enters91 : Enters 91 := enters Try.func91 rfl rfl
set_option maxRecDepth 100000 in
set_option maxHeartbeats 4000000 in
theorem tells_add (r c : Nat) (A A' : Option Addr) (cp cp' : Nat) (n g : Nat) (l m : List Int) (w : World) (hr : r ≤ 8) (hc : c ≤ 8) (hl : l.length = r * c) (hm : m.length = r * c) (hA : Rd w A l) (hA' : Rd w A' m)
    (D : Row w n 82 #[.func (.func 62) #[] #[]]) (R : Row w g 26 #[I r, I c, .slice A l.length cp]) (R' : Row w (g + 1) 26 #[I r, I c, .slice A' m.length cp']) (hn : True) :
    Tells w 91 #[.pointer (some ⟨n, 0, none⟩), .pointer (some ⟨g, 0, none⟩), .pointer (some ⟨g + 1, 0, none⟩)] r c (fun i k => (addZ (l.getD (i * c + k) 0) (m.getD (i * c + k) 0)).1) (fun i k => (addZ (l.getD (i * c + k) 0) (m.getD (i * c + k) 0)).2) := by
  intro i k w' hi hk hb
  have D1 := Lib.hid (D.below hb D.lt)
  have R1 := Lib.hid (R.below hb R.lt)
  have R2 := Lib.hid (R'.below hb R'.lt)
  have hle : r * c ≤ 8 * 8 := Nat.mul_le_mul hr hc
  have hlt : i * c + k < r * c := idx_lt hi hk
  have H1 := Lib.hid (fun w' h => at_calls r c A cp l i k w' h (by rw [hl]; exact hlt) (by rw [hl]; omega))
  have H2 := Lib.hid (fun w' h => at_calls r c A' cp' m i k w' h (by rw [hm]; exact hlt) (by rw [hm]; omega))
  have A1 := Lib.hid (hA.below hb)
  have A2 := Lib.hid (hA'.below hb)
  obtain ⟨x, hx⟩ : ∃ x, l.getD (i * c + k) 0 = x := ⟨_, rfl⟩
  obtain ⟨y, hy⟩ : ∃ y, m.getD (i * c + k) 0 = y := ⟨_, rfl⟩
  rw [hx] at H1
  rw [hy] at H2
  show Calls Try.prog 91 #[I i, I k, .pointer (some ⟨n, 0, none⟩), .pointer (some ⟨g, 0, none⟩), .pointer (some ⟨g + 1, 0, none⟩)] w' fun e w'' => e = .returned (.tuple #[I (addZ (l.getD (i * c + k) 0) (m.getD (i * c + k) 0)).1, .bool (addZ (l.getD (i * c + k) 0) (m.getD (i * c + k) 0)).2]) ∧ Below w'.heap.size w' w''
  rw [hx, hy]
  have H3 := Lib.hid (fun w => add_calls x y w)
  obtain ⟨z, hz⟩ : ∃ z, addZ x y = z := ⟨_, rfl⟩
  rw [hz] at H3 ⊢
  obtain ⟨z1, z2⟩ := z
  clear hb R R' D hA hA' hr hc hle hl hm hx hy hz hlt
  have K : Hid (∀ w2, Below w'.heap.size w' w2 → (∀ o, w2.cell? ⟨n, o, none⟩ = #[.func (.func 62) #[] #[]][o]?) ∧ (∀ o, w2.cell? ⟨g, o, none⟩ = #[I r, I c, .slice A l.length cp][o]?) ∧ (∀ o, w2.cell? ⟨g + 1, o, none⟩ = #[I r, I c, .slice A' m.length cp'][o]?)) := Lib.hid (fun w2 hb => ⟨(D1.out.below hb D1.out.lt).cell, (R1.out.below hb R1.out.lt).cell, (R2.out.below hb R2.out.lt).cell⟩)
  have B0 := Lib.hid (Below.refl w'.heap.size w')
  have B1 := Lib.hid B0.out.drew
  have x1 := D1.out.cell
  have x2 := R1.out.cell
  have x3 := R2.out.cell
  clear D1 R1 R2
  go_enter Try.func91, Try.ntmps91
  go_wp2_with fail
  go_region_held3 (fun w2 => (∀ o, w2.cell? ⟨n, o, none⟩ = #[.func (.func 62) #[] #[]][o]?) ∧ (∀ o, w2.cell? ⟨g, o, none⟩ = #[I r, I c, .slice A l.length cp][o]?) ∧ (∀ o, w2.cell? ⟨g + 1, o, none⟩ = #[I r, I c, .slice A' m.length cp'][o]?))
    (first | with_reducible exact K.out _ B4.out | with_reducible exact K.out _ B3.out | with_reducible exact K.out _ B2.out | with_reducible exact K.out _ B1.out | with_reducible exact K.out _ B0.out)
    (first
      | (go_at_call 62
         refine (H3.out _).mono ?_
         rintro e w4 ⟨rfl, hb⟩
         have B4 := Lib.hid (B3.out.trans (hb.mono B3.out.size))
         clear hb)
      | (go_at_call 80
         refine (H2.out _ (A2.out.below B2.out)).mono ?_
         rintro e w3 ⟨rfl, hb⟩
         have B3 := Lib.hid (B2.out.trans (hb.mono B2.out.size))
         clear hb)
      | (go_at_call 80
         refine (H1.out _ (A1.out.below B1.out)).mono ?_
         rintro e w2 ⟨rfl, hb⟩
         have B2 := Lib.hid (B1.out.trans (hb.mono B1.out.size))
         clear hb))
  all_goals
    go_wp2
    go_ret2
    exact ⟨rfl, B4.out⟩
set_option maxRecDepth 100000 in
set_option maxHeartbeats 4000000 in
theorem each_add (r c : Nat) (A A' : Option Addr) (cp cp' : Nat) (l m : List Int) (w : World) (hr : r ≤ 8) (hc : c ≤ 8) (hl : l.length = r * c) (hm : m.length = r * c) (hA : Rd w A l) (hA' : Rd w A' m) (hcp : l.length ≤ cp) (hcp' : m.length ≤ cp') :
    Calls Try.prog 72 #[.agg #[I r, I c, (.slice A l.length cp)], .agg #[I r, I c, (.slice A' m.length cp')], .func (.func 62) #[] #[]] w fun e w' => ∃ A2 c2, e = .returned (.tuple #[.agg #[I r, I c, .slice A2 (eachL addZ r c l m).length c2], .bool (eachB addZ r c l m), I 0]) ∧ Own w' w.heap.size (.slice A2 (eachL addZ r c l m).length c2) (eachL addZ r c l m) ∧ Below w.heap.size w w' := by
  have N : Hid (Scene w [(26, #[I r, I c, (.slice A l.length cp)]), (26, #[I r, I c, (.slice A' m.length cp')]), (82, #[.func (.func 62) #[] #[]]), (26, #[I 0, I 0, .slice none 0 0])] ((((w.alloc (.cells #[I r, I c, (.slice A l.length cp)] 26)).alloc (.cells #[I r, I c, (.slice A' m.length cp')] 26)).alloc (.cells #[.func (.func 62) #[] #[]] 82)).alloc (.cells #[I 0, I 0, .slice none 0 0] 26))) := Lib.hid (((((Scene.none w).push (by simp) _ _).push (by simp) _ _).push (by simp) _ _).push (by simp) _ _)
  have O1 := Lib.hid (fun w' h => of_calls r c A l cp w' h hcp)
  have O2 := Lib.hid (fun w' h => of_calls r c A' m cp' w' h hcp')
  have HA := Lib.hid hA
  have HA' := Lib.hid hA'
  obtain ⟨L, hL⟩ : ∃ L, eachL addZ r c l m = L := ⟨_, rfl⟩
  obtain ⟨b, hb⟩ : ∃ b, eachB addZ r c l m = b := ⟨_, rfl⟩
  have HM := Lib.hid (fun w' (h : Scene w [(26, #[I r, I c, (.slice A l.length cp)]), (26, #[I r, I c, (.slice A' m.length cp')]), (82, #[.func (.func 62) #[] #[]]), (26, #[I 0, I 0, .slice none 0 0])] w') => made_to 91 #[.pointer (some ⟨w.heap.size + 1 + 1, 0, none⟩), .pointer (some ⟨w.heap.size, 0, none⟩), .pointer (some ⟨w.heap.size + 1, 0, none⟩)] r c _ _ w' L b hL hb hr hc enters91 (tells_add r c A A' cp cp' _ w.heap.size l m w' hr hc hl hm (hA.below h.be) (hA'.below h.be) h.r2 h.r0 h.r1 trivial))
  rw [hL, hb]
  clear hr hc hl hm hA hA' hcp hcp' hL hb
  have KK : Hid (∀ w', Scene w [(26, #[I r, I c, (.slice A l.length cp)]), (26, #[I r, I c, (.slice A' m.length cp')]), (82, #[.func (.func 62) #[] #[]]), (26, #[I 0, I 0, .slice none 0 0])] w' → (∀ o, w'.cell? ⟨w.heap.size, o, none⟩ = #[I r, I c, (.slice A l.length cp)][o]?) ∧ (∀ o, w'.cell? ⟨w.heap.size + 1, o, none⟩ = #[I r, I c, (.slice A' m.length cp')][o]?)) := Lib.hid (fun w' h => ⟨h.r0.cell, h.r1.cell⟩)
  have y0 := N.out.r0.cell
  have y1 := N.out.r1.cell
  go_enter Try.func72, Try.ntmps72
  go_wp2_with fail
  go_region_held3 (fun w' => (∀ o, w'.cell? ⟨w.heap.size, o, none⟩ = #[I r, I c, (.slice A l.length cp)][o]?) ∧ (∀ o, w'.cell? ⟨w.heap.size + 1, o, none⟩ = #[I r, I c, (.slice A' m.length cp')][o]?))
    (first | with_reducible exact KK.out _ N3.out | with_reducible exact KK.out _ N2.out | with_reducible exact KK.out _ N.out.drew | with_reducible exact KK.out _ N.out)
    (first
      | (go_at_call 77
         refine (O2.out _ (HA'.out.below N2.out.be)).mono ?_
         rintro e w3 ⟨rfl, hb⟩
         have N3 := Lib.hid (N2.out.below hb)
         clear hb)
      | (go_at_call 77
         refine (O1.out _ (HA.out.below N.out.drew.be)).mono ?_
         rintro e w2 ⟨rfl, hb⟩
         have N2 := Lib.hid (N.out.drew.below hb)
         clear hb))
  have x1 := N3.out.r0.cell
  have t1 := N3.out.r0.lt
  have hmf := hmf
  go_wp2_with (go_at_call 77
               refine (O1.out _ (HA.out.below N3.out.be)).mono ?_
               rintro e w4 ⟨rfl, hb⟩
               have N4 := Lib.hid (N3.out.below hb)
               clear hb)
  refine (HM.out _ N4.out).mono ?_
  rintro e w5 ⟨A2, c2, rfl, ho, hb⟩
  have O := Lib.hid ho
  have N5 := Lib.hid (N4.out.below hb)
  have S4 := N4.out.be.size
  have L4 := N4.out.r3.lt
  clear ho hb x1 t1
  have x3 := N5.out.r3.cell
  have g3 := N5.out.r3.free
  have t3 := N5.out.r3.lt
  go_wp2
  refine bodyPost_ret (res3tt rfl rfl ((N5.out.r3.fill3 _ _ _).alloc _)) rfl ⟨_, _, rfl, ?_, (Below.fill3 N5.out.be (by omega) _ _ _).alloc (by have := N5.out.be.size; simp; omega) _⟩
  exact ((O.out.fill3 (by omega) _ _ _).alloc _).lower (by omega)
set_option maxRecDepth 100000 in
set_option maxHeartbeats 4000000 in
theorem each_add_bad (r c r' c' : Int) (A A' : Option Addr) (cp cp' : Nat) (l m : List Int) (w : World) (hne : ¬ (r = r' ∧ c = c')) (hA : Rd w A l) (hA' : Rd w A' m) (hcp : l.length ≤ cp) (hcp' : m.length ≤ cp') :
    Calls Try.prog 72 #[.agg #[I r, I c, (.slice A l.length cp)], .agg #[I r', I c', (.slice A' m.length cp')], .func (.func 62) #[] #[]] w fun e w' => e = .returned (.tuple #[.agg #[I 0, I 0, .slice none 0 0], .bool false, I 9]) ∧ Below w.heap.size w w' := by
  have N : Hid (Scene w [(26, #[I r, I c, (.slice A l.length cp)]), (26, #[I r', I c', (.slice A' m.length cp')]), (82, #[.func (.func 62) #[] #[]]), (26, #[I 0, I 0, .slice none 0 0])] ((((w.alloc (.cells #[I r, I c, (.slice A l.length cp)] 26)).alloc (.cells #[I r', I c', (.slice A' m.length cp')] 26)).alloc (.cells #[.func (.func 62) #[] #[]] 82)).alloc (.cells #[I 0, I 0, .slice none 0 0] 26))) := Lib.hid (((((Scene.none w).push (by simp) _ _).push (by simp) _ _).push (by simp) _ _).push (by simp) _ _)
  have O1 := Lib.hid (fun w' h => of_calls r c A l cp w' h hcp)
  have O2 := Lib.hid (fun w' h => of_calls r' c' A' m cp' w' h hcp')
  have HA := Lib.hid hA
  have HA' := Lib.hid hA'
  have hne2 : (r == r' && (c == c')) = false := by
    cases h : (r == r' && (c == c')) with
    | false => rfl
    | true => simp at h; exact absurd h hne
  clear hA hA' hcp hcp' hne
  have KK : Hid (∀ w', Scene w [(26, #[I r, I c, (.slice A l.length cp)]), (26, #[I r', I c', (.slice A' m.length cp')]), (82, #[.func (.func 62) #[] #[]]), (26, #[I 0, I 0, .slice none 0 0])] w' → (∀ o, w'.cell? ⟨w.heap.size, o, none⟩ = #[I r, I c, (.slice A l.length cp)][o]?) ∧ (∀ o, w'.cell? ⟨w.heap.size + 1, o, none⟩ = #[I r', I c', (.slice A' m.length cp')][o]?)) := Lib.hid (fun w' h => ⟨h.r0.cell, h.r1.cell⟩)
  have y0 := N.out.r0.cell
  have y1 := N.out.r1.cell
  go_enter Try.func72, Try.ntmps72
  go_wp2_with fail
  go_region_held3 (fun w' => (∀ o, w'.cell? ⟨w.heap.size, o, none⟩ = #[I r, I c, (.slice A l.length cp)][o]?) ∧ (∀ o, w'.cell? ⟨w.heap.size + 1, o, none⟩ = #[I r', I c', (.slice A' m.length cp')][o]?))
    (first | with_reducible exact KK.out _ N3.out | with_reducible exact KK.out _ N2.out | with_reducible exact KK.out _ N.out.drew | with_reducible exact KK.out _ N.out)
    (first
      | (go_at_call 77
         refine (O2.out _ (HA'.out.below N2.out.be)).mono ?_
         rintro e w3 ⟨rfl, hb⟩
         have N3 := Lib.hid (N2.out.below hb)
         clear hb)
      | (go_at_call 77
         refine (O1.out _ (HA.out.below N.out.drew.be)).mono ?_
         rintro e w2 ⟨rfl, hb⟩
         have N2 := Lib.hid (N.out.drew.below hb)
         clear hb))
  have x3 := N3.out.r3.cell
  have g3 := N3.out.r3.free
  have t3 := N3.out.r3.lt
  go_wp2
  exact bodyPost_ret (res3tt rfl rfl (N3.out.r3.fill3 _ _ _)) rfl ⟨rfl, Below.fill3 N3.out.be (by omega) _ _ _⟩
set_option maxRecDepth 100000 in
set_option maxHeartbeats 4000000 in
theorem tells_sub (r c : Nat) (A A' : Option Addr) (cp cp' : Nat) (n g : Nat) (l m : List Int) (w : World) (hr : r ≤ 8) (hc : c ≤ 8) (hl : l.length = r * c) (hm : m.length = r * c) (hA : Rd w A l) (hA' : Rd w A' m)
    (D : Row w n 82 #[.func (.func 61) #[] #[]]) (R : Row w g 26 #[I r, I c, .slice A l.length cp]) (R' : Row w (g + 1) 26 #[I r, I c, .slice A' m.length cp']) (hn : True) :
    Tells w 91 #[.pointer (some ⟨n, 0, none⟩), .pointer (some ⟨g, 0, none⟩), .pointer (some ⟨g + 1, 0, none⟩)] r c (fun i k => (subZ (l.getD (i * c + k) 0) (m.getD (i * c + k) 0)).1) (fun i k => (subZ (l.getD (i * c + k) 0) (m.getD (i * c + k) 0)).2) := by
  intro i k w' hi hk hb
  have D1 := Lib.hid (D.below hb D.lt)
  have R1 := Lib.hid (R.below hb R.lt)
  have R2 := Lib.hid (R'.below hb R'.lt)
  have hle : r * c ≤ 8 * 8 := Nat.mul_le_mul hr hc
  have hlt : i * c + k < r * c := idx_lt hi hk
  have H1 := Lib.hid (fun w' h => at_calls r c A cp l i k w' h (by rw [hl]; exact hlt) (by rw [hl]; omega))
  have H2 := Lib.hid (fun w' h => at_calls r c A' cp' m i k w' h (by rw [hm]; exact hlt) (by rw [hm]; omega))
  have A1 := Lib.hid (hA.below hb)
  have A2 := Lib.hid (hA'.below hb)
  obtain ⟨x, hx⟩ : ∃ x, l.getD (i * c + k) 0 = x := ⟨_, rfl⟩
  obtain ⟨y, hy⟩ : ∃ y, m.getD (i * c + k) 0 = y := ⟨_, rfl⟩
  rw [hx] at H1
  rw [hy] at H2
  show Calls Try.prog 91 #[I i, I k, .pointer (some ⟨n, 0, none⟩), .pointer (some ⟨g, 0, none⟩), .pointer (some ⟨g + 1, 0, none⟩)] w' fun e w'' => e = .returned (.tuple #[I (subZ (l.getD (i * c + k) 0) (m.getD (i * c + k) 0)).1, .bool (subZ (l.getD (i * c + k) 0) (m.getD (i * c + k) 0)).2]) ∧ Below w'.heap.size w' w''
  rw [hx, hy]
  have H3 := Lib.hid (fun w => sub_calls x y w)
  obtain ⟨z, hz⟩ : ∃ z, subZ x y = z := ⟨_, rfl⟩
  rw [hz] at H3 ⊢
  obtain ⟨z1, z2⟩ := z
  clear hb R R' D hA hA' hr hc hle hl hm hx hy hz hlt
  have K : Hid (∀ w2, Below w'.heap.size w' w2 → (∀ o, w2.cell? ⟨n, o, none⟩ = #[.func (.func 61) #[] #[]][o]?) ∧ (∀ o, w2.cell? ⟨g, o, none⟩ = #[I r, I c, .slice A l.length cp][o]?) ∧ (∀ o, w2.cell? ⟨g + 1, o, none⟩ = #[I r, I c, .slice A' m.length cp'][o]?)) := Lib.hid (fun w2 hb => ⟨(D1.out.below hb D1.out.lt).cell, (R1.out.below hb R1.out.lt).cell, (R2.out.below hb R2.out.lt).cell⟩)
  have B0 := Lib.hid (Below.refl w'.heap.size w')
  have B1 := Lib.hid B0.out.drew
  have x1 := D1.out.cell
  have x2 := R1.out.cell
  have x3 := R2.out.cell
  clear D1 R1 R2
  go_enter Try.func91, Try.ntmps91
  go_wp2_with fail
  go_region_held3 (fun w2 => (∀ o, w2.cell? ⟨n, o, none⟩ = #[.func (.func 61) #[] #[]][o]?) ∧ (∀ o, w2.cell? ⟨g, o, none⟩ = #[I r, I c, .slice A l.length cp][o]?) ∧ (∀ o, w2.cell? ⟨g + 1, o, none⟩ = #[I r, I c, .slice A' m.length cp'][o]?))
    (first | with_reducible exact K.out _ B4.out | with_reducible exact K.out _ B3.out | with_reducible exact K.out _ B2.out | with_reducible exact K.out _ B1.out | with_reducible exact K.out _ B0.out)
    (first
      | (go_at_call 61
         refine (H3.out _).mono ?_
         rintro e w4 ⟨rfl, hb⟩
         have B4 := Lib.hid (B3.out.trans (hb.mono B3.out.size))
         clear hb)
      | (go_at_call 80
         refine (H2.out _ (A2.out.below B2.out)).mono ?_
         rintro e w3 ⟨rfl, hb⟩
         have B3 := Lib.hid (B2.out.trans (hb.mono B2.out.size))
         clear hb)
      | (go_at_call 80
         refine (H1.out _ (A1.out.below B1.out)).mono ?_
         rintro e w2 ⟨rfl, hb⟩
         have B2 := Lib.hid (B1.out.trans (hb.mono B1.out.size))
         clear hb))
  all_goals
    go_wp2
    go_ret2
    exact ⟨rfl, B4.out⟩
set_option maxRecDepth 100000 in
set_option maxHeartbeats 4000000 in
theorem each_sub (r c : Nat) (A A' : Option Addr) (cp cp' : Nat) (l m : List Int) (w : World) (hr : r ≤ 8) (hc : c ≤ 8) (hl : l.length = r * c) (hm : m.length = r * c) (hA : Rd w A l) (hA' : Rd w A' m) (hcp : l.length ≤ cp) (hcp' : m.length ≤ cp') :
    Calls Try.prog 72 #[.agg #[I r, I c, (.slice A l.length cp)], .agg #[I r, I c, (.slice A' m.length cp')], .func (.func 61) #[] #[]] w fun e w' => ∃ A2 c2, e = .returned (.tuple #[.agg #[I r, I c, .slice A2 (eachL subZ r c l m).length c2], .bool (eachB subZ r c l m), I 0]) ∧ Own w' w.heap.size (.slice A2 (eachL subZ r c l m).length c2) (eachL subZ r c l m) ∧ Below w.heap.size w w' := by
  have N : Hid (Scene w [(26, #[I r, I c, (.slice A l.length cp)]), (26, #[I r, I c, (.slice A' m.length cp')]), (82, #[.func (.func 61) #[] #[]]), (26, #[I 0, I 0, .slice none 0 0])] ((((w.alloc (.cells #[I r, I c, (.slice A l.length cp)] 26)).alloc (.cells #[I r, I c, (.slice A' m.length cp')] 26)).alloc (.cells #[.func (.func 61) #[] #[]] 82)).alloc (.cells #[I 0, I 0, .slice none 0 0] 26))) := Lib.hid (((((Scene.none w).push (by simp) _ _).push (by simp) _ _).push (by simp) _ _).push (by simp) _ _)
  have O1 := Lib.hid (fun w' h => of_calls r c A l cp w' h hcp)
  have O2 := Lib.hid (fun w' h => of_calls r c A' m cp' w' h hcp')
  have HA := Lib.hid hA
  have HA' := Lib.hid hA'
  obtain ⟨L, hL⟩ : ∃ L, eachL subZ r c l m = L := ⟨_, rfl⟩
  obtain ⟨b, hb⟩ : ∃ b, eachB subZ r c l m = b := ⟨_, rfl⟩
  have HM := Lib.hid (fun w' (h : Scene w [(26, #[I r, I c, (.slice A l.length cp)]), (26, #[I r, I c, (.slice A' m.length cp')]), (82, #[.func (.func 61) #[] #[]]), (26, #[I 0, I 0, .slice none 0 0])] w') => made_to 91 #[.pointer (some ⟨w.heap.size + 1 + 1, 0, none⟩), .pointer (some ⟨w.heap.size, 0, none⟩), .pointer (some ⟨w.heap.size + 1, 0, none⟩)] r c _ _ w' L b hL hb hr hc enters91 (tells_sub r c A A' cp cp' _ w.heap.size l m w' hr hc hl hm (hA.below h.be) (hA'.below h.be) h.r2 h.r0 h.r1 trivial))
  rw [hL, hb]
  clear hr hc hl hm hA hA' hcp hcp' hL hb
  have KK : Hid (∀ w', Scene w [(26, #[I r, I c, (.slice A l.length cp)]), (26, #[I r, I c, (.slice A' m.length cp')]), (82, #[.func (.func 61) #[] #[]]), (26, #[I 0, I 0, .slice none 0 0])] w' → (∀ o, w'.cell? ⟨w.heap.size, o, none⟩ = #[I r, I c, (.slice A l.length cp)][o]?) ∧ (∀ o, w'.cell? ⟨w.heap.size + 1, o, none⟩ = #[I r, I c, (.slice A' m.length cp')][o]?)) := Lib.hid (fun w' h => ⟨h.r0.cell, h.r1.cell⟩)
  have y0 := N.out.r0.cell
  have y1 := N.out.r1.cell
  go_enter Try.func72, Try.ntmps72
  go_wp2_with fail
  go_region_held3 (fun w' => (∀ o, w'.cell? ⟨w.heap.size, o, none⟩ = #[I r, I c, (.slice A l.length cp)][o]?) ∧ (∀ o, w'.cell? ⟨w.heap.size + 1, o, none⟩ = #[I r, I c, (.slice A' m.length cp')][o]?))
    (first | with_reducible exact KK.out _ N3.out | with_reducible exact KK.out _ N2.out | with_reducible exact KK.out _ N.out.drew | with_reducible exact KK.out _ N.out)
    (first
      | (go_at_call 77
         refine (O2.out _ (HA'.out.below N2.out.be)).mono ?_
         rintro e w3 ⟨rfl, hb⟩
         have N3 := Lib.hid (N2.out.below hb)
         clear hb)
      | (go_at_call 77
         refine (O1.out _ (HA.out.below N.out.drew.be)).mono ?_
         rintro e w2 ⟨rfl, hb⟩
         have N2 := Lib.hid (N.out.drew.below hb)
         clear hb))
  have x1 := N3.out.r0.cell
  have t1 := N3.out.r0.lt
  have hmf := hmf
  go_wp2_with (go_at_call 77
               refine (O1.out _ (HA.out.below N3.out.be)).mono ?_
               rintro e w4 ⟨rfl, hb⟩
               have N4 := Lib.hid (N3.out.below hb)
               clear hb)
  refine (HM.out _ N4.out).mono ?_
  rintro e w5 ⟨A2, c2, rfl, ho, hb⟩
  have O := Lib.hid ho
  have N5 := Lib.hid (N4.out.below hb)
  have S4 := N4.out.be.size
  have L4 := N4.out.r3.lt
  clear ho hb x1 t1
  have x3 := N5.out.r3.cell
  have g3 := N5.out.r3.free
  have t3 := N5.out.r3.lt
  go_wp2
  refine bodyPost_ret (res3tt rfl rfl ((N5.out.r3.fill3 _ _ _).alloc _)) rfl ⟨_, _, rfl, ?_, (Below.fill3 N5.out.be (by omega) _ _ _).alloc (by have := N5.out.be.size; simp; omega) _⟩
  exact ((O.out.fill3 (by omega) _ _ _).alloc _).lower (by omega)
set_option maxRecDepth 100000 in
set_option maxHeartbeats 4000000 in
theorem each_sub_bad (r c r' c' : Int) (A A' : Option Addr) (cp cp' : Nat) (l m : List Int) (w : World) (hne : ¬ (r = r' ∧ c = c')) (hA : Rd w A l) (hA' : Rd w A' m) (hcp : l.length ≤ cp) (hcp' : m.length ≤ cp') :
    Calls Try.prog 72 #[.agg #[I r, I c, (.slice A l.length cp)], .agg #[I r', I c', (.slice A' m.length cp')], .func (.func 61) #[] #[]] w fun e w' => e = .returned (.tuple #[.agg #[I 0, I 0, .slice none 0 0], .bool false, I 9]) ∧ Below w.heap.size w w' := by
  have N : Hid (Scene w [(26, #[I r, I c, (.slice A l.length cp)]), (26, #[I r', I c', (.slice A' m.length cp')]), (82, #[.func (.func 61) #[] #[]]), (26, #[I 0, I 0, .slice none 0 0])] ((((w.alloc (.cells #[I r, I c, (.slice A l.length cp)] 26)).alloc (.cells #[I r', I c', (.slice A' m.length cp')] 26)).alloc (.cells #[.func (.func 61) #[] #[]] 82)).alloc (.cells #[I 0, I 0, .slice none 0 0] 26))) := Lib.hid (((((Scene.none w).push (by simp) _ _).push (by simp) _ _).push (by simp) _ _).push (by simp) _ _)
  have O1 := Lib.hid (fun w' h => of_calls r c A l cp w' h hcp)
  have O2 := Lib.hid (fun w' h => of_calls r' c' A' m cp' w' h hcp')
  have HA := Lib.hid hA
  have HA' := Lib.hid hA'
  have hne2 : (r == r' && (c == c')) = false := by
    cases h : (r == r' && (c == c')) with
    | false => rfl
    | true => simp at h; exact absurd h hne
  clear hA hA' hcp hcp' hne
  have KK : Hid (∀ w', Scene w [(26, #[I r, I c, (.slice A l.length cp)]), (26, #[I r', I c', (.slice A' m.length cp')]), (82, #[.func (.func 61) #[] #[]]), (26, #[I 0, I 0, .slice none 0 0])] w' → (∀ o, w'.cell? ⟨w.heap.size, o, none⟩ = #[I r, I c, (.slice A l.length cp)][o]?) ∧ (∀ o, w'.cell? ⟨w.heap.size + 1, o, none⟩ = #[I r', I c', (.slice A' m.length cp')][o]?)) := Lib.hid (fun w' h => ⟨h.r0.cell, h.r1.cell⟩)
  have y0 := N.out.r0.cell
  have y1 := N.out.r1.cell
  go_enter Try.func72, Try.ntmps72
  go_wp2_with fail
  go_region_held3 (fun w' => (∀ o, w'.cell? ⟨w.heap.size, o, none⟩ = #[I r, I c, (.slice A l.length cp)][o]?) ∧ (∀ o, w'.cell? ⟨w.heap.size + 1, o, none⟩ = #[I r', I c', (.slice A' m.length cp')][o]?))
    (first | with_reducible exact KK.out _ N3.out | with_reducible exact KK.out _ N2.out | with_reducible exact KK.out _ N.out.drew | with_reducible exact KK.out _ N.out)
    (first
      | (go_at_call 77
         refine (O2.out _ (HA'.out.below N2.out.be)).mono ?_
         rintro e w3 ⟨rfl, hb⟩
         have N3 := Lib.hid (N2.out.below hb)
         clear hb)
      | (go_at_call 77
         refine (O1.out _ (HA.out.below N.out.drew.be)).mono ?_
         rintro e w2 ⟨rfl, hb⟩
         have N2 := Lib.hid (N.out.drew.below hb)
         clear hb))
  have x3 := N3.out.r3.cell
  have g3 := N3.out.r3.free
  have t3 := N3.out.r3.lt
  go_wp2
  exact bodyPost_ret (res3tt rfl rfl (N3.out.r3.fill3 _ _ _)) rfl ⟨rfl, Below.fill3 N3.out.be (by omega) _ _ _⟩
set_option maxRecDepth 100000 in
set_option maxHeartbeats 4000000 in
theorem tells_half (r c : Nat) (A A' : Option Addr) (cp cp' : Nat) (n g : Nat) (l m : List Int) (w : World) (hr : r ≤ 8) (hc : c ≤ 8) (hl : l.length = r * c) (hm : m.length = r * c) (hA : Rd w A l) (hA' : Rd w A' m)
    (D : Row w n 82 #[.func (.func 73) #[] #[]]) (R : Row w g 26 #[I r, I c, .slice A l.length cp]) (R' : Row w (g + 1) 26 #[I r, I c, .slice A' m.length cp']) (hn : True) :
    Tells w 91 #[.pointer (some ⟨n, 0, none⟩), .pointer (some ⟨g, 0, none⟩), .pointer (some ⟨g + 1, 0, none⟩)] r c (fun i k => (halfZ (l.getD (i * c + k) 0) (m.getD (i * c + k) 0)).1) (fun i k => (halfZ (l.getD (i * c + k) 0) (m.getD (i * c + k) 0)).2) := by
  intro i k w' hi hk hb
  have D1 := Lib.hid (D.below hb D.lt)
  have R1 := Lib.hid (R.below hb R.lt)
  have R2 := Lib.hid (R'.below hb R'.lt)
  have hle : r * c ≤ 8 * 8 := Nat.mul_le_mul hr hc
  have hlt : i * c + k < r * c := idx_lt hi hk
  have H1 := Lib.hid (fun w' h => at_calls r c A cp l i k w' h (by rw [hl]; exact hlt) (by rw [hl]; omega))
  have H2 := Lib.hid (fun w' h => at_calls r c A' cp' m i k w' h (by rw [hm]; exact hlt) (by rw [hm]; omega))
  have A1 := Lib.hid (hA.below hb)
  have A2 := Lib.hid (hA'.below hb)
  obtain ⟨x, hx⟩ : ∃ x, l.getD (i * c + k) 0 = x := ⟨_, rfl⟩
  obtain ⟨y, hy⟩ : ∃ y, m.getD (i * c + k) 0 = y := ⟨_, rfl⟩
  rw [hx] at H1
  rw [hy] at H2
  show Calls Try.prog 91 #[I i, I k, .pointer (some ⟨n, 0, none⟩), .pointer (some ⟨g, 0, none⟩), .pointer (some ⟨g + 1, 0, none⟩)] w' fun e w'' => e = .returned (.tuple #[I (halfZ (l.getD (i * c + k) 0) (m.getD (i * c + k) 0)).1, .bool (halfZ (l.getD (i * c + k) 0) (m.getD (i * c + k) 0)).2]) ∧ Below w'.heap.size w' w''
  rw [hx, hy]
  have H3 := Lib.hid (fun w => half_calls x y w)
  obtain ⟨z, hz⟩ : ∃ z, halfZ x y = z := ⟨_, rfl⟩
  rw [hz] at H3 ⊢
  obtain ⟨z1, z2⟩ := z
  clear hb R R' D hA hA' hr hc hle hl hm hx hy hz hlt
  have K : Hid (∀ w2, Below w'.heap.size w' w2 → (∀ o, w2.cell? ⟨n, o, none⟩ = #[.func (.func 73) #[] #[]][o]?) ∧ (∀ o, w2.cell? ⟨g, o, none⟩ = #[I r, I c, .slice A l.length cp][o]?) ∧ (∀ o, w2.cell? ⟨g + 1, o, none⟩ = #[I r, I c, .slice A' m.length cp'][o]?)) := Lib.hid (fun w2 hb => ⟨(D1.out.below hb D1.out.lt).cell, (R1.out.below hb R1.out.lt).cell, (R2.out.below hb R2.out.lt).cell⟩)
  have B0 := Lib.hid (Below.refl w'.heap.size w')
  have B1 := Lib.hid B0.out.drew
  have x1 := D1.out.cell
  have x2 := R1.out.cell
  have x3 := R2.out.cell
  clear D1 R1 R2
  go_enter Try.func91, Try.ntmps91
  go_wp2_with fail
  go_region_held3 (fun w2 => (∀ o, w2.cell? ⟨n, o, none⟩ = #[.func (.func 73) #[] #[]][o]?) ∧ (∀ o, w2.cell? ⟨g, o, none⟩ = #[I r, I c, .slice A l.length cp][o]?) ∧ (∀ o, w2.cell? ⟨g + 1, o, none⟩ = #[I r, I c, .slice A' m.length cp'][o]?))
    (first | with_reducible exact K.out _ B4.out | with_reducible exact K.out _ B3.out | with_reducible exact K.out _ B2.out | with_reducible exact K.out _ B1.out | with_reducible exact K.out _ B0.out)
    (first
      | (go_at_call 73
         refine (H3.out _).mono ?_
         rintro e w4 ⟨rfl, hb⟩
         have B4 := Lib.hid (B3.out.trans (hb.mono B3.out.size))
         clear hb)
      | (go_at_call 80
         refine (H2.out _ (A2.out.below B2.out)).mono ?_
         rintro e w3 ⟨rfl, hb⟩
         have B3 := Lib.hid (B2.out.trans (hb.mono B2.out.size))
         clear hb)
      | (go_at_call 80
         refine (H1.out _ (A1.out.below B1.out)).mono ?_
         rintro e w2 ⟨rfl, hb⟩
         have B2 := Lib.hid (B1.out.trans (hb.mono B1.out.size))
         clear hb))
  all_goals
    go_wp2
    go_ret2
    exact ⟨rfl, B4.out⟩
set_option maxRecDepth 100000 in
set_option maxHeartbeats 4000000 in
theorem each_half (r c : Nat) (A A' : Option Addr) (cp cp' : Nat) (l m : List Int) (w : World) (hr : r ≤ 8) (hc : c ≤ 8) (hl : l.length = r * c) (hm : m.length = r * c) (hA : Rd w A l) (hA' : Rd w A' m) (hcp : l.length ≤ cp) (hcp' : m.length ≤ cp') :
    Calls Try.prog 72 #[.agg #[I r, I c, (.slice A l.length cp)], .agg #[I r, I c, (.slice A' m.length cp')], .func (.func 73) #[] #[]] w fun e w' => ∃ A2 c2, e = .returned (.tuple #[.agg #[I r, I c, .slice A2 (eachL halfZ r c l m).length c2], .bool (eachB halfZ r c l m), I 0]) ∧ Own w' w.heap.size (.slice A2 (eachL halfZ r c l m).length c2) (eachL halfZ r c l m) ∧ Below w.heap.size w w' := by
  have N : Hid (Scene w [(26, #[I r, I c, (.slice A l.length cp)]), (26, #[I r, I c, (.slice A' m.length cp')]), (82, #[.func (.func 73) #[] #[]]), (26, #[I 0, I 0, .slice none 0 0])] ((((w.alloc (.cells #[I r, I c, (.slice A l.length cp)] 26)).alloc (.cells #[I r, I c, (.slice A' m.length cp')] 26)).alloc (.cells #[.func (.func 73) #[] #[]] 82)).alloc (.cells #[I 0, I 0, .slice none 0 0] 26))) := Lib.hid (((((Scene.none w).push (by simp) _ _).push (by simp) _ _).push (by simp) _ _).push (by simp) _ _)
  have O1 := Lib.hid (fun w' h => of_calls r c A l cp w' h hcp)
  have O2 := Lib.hid (fun w' h => of_calls r c A' m cp' w' h hcp')
  have HA := Lib.hid hA
  have HA' := Lib.hid hA'
  obtain ⟨L, hL⟩ : ∃ L, eachL halfZ r c l m = L := ⟨_, rfl⟩
  obtain ⟨b, hb⟩ : ∃ b, eachB halfZ r c l m = b := ⟨_, rfl⟩
  have HM := Lib.hid (fun w' (h : Scene w [(26, #[I r, I c, (.slice A l.length cp)]), (26, #[I r, I c, (.slice A' m.length cp')]), (82, #[.func (.func 73) #[] #[]]), (26, #[I 0, I 0, .slice none 0 0])] w') => made_to 91 #[.pointer (some ⟨w.heap.size + 1 + 1, 0, none⟩), .pointer (some ⟨w.heap.size, 0, none⟩), .pointer (some ⟨w.heap.size + 1, 0, none⟩)] r c _ _ w' L b hL hb hr hc enters91 (tells_half r c A A' cp cp' _ w.heap.size l m w' hr hc hl hm (hA.below h.be) (hA'.below h.be) h.r2 h.r0 h.r1 trivial))
  rw [hL, hb]
  clear hr hc hl hm hA hA' hcp hcp' hL hb
  have KK : Hid (∀ w', Scene w [(26, #[I r, I c, (.slice A l.length cp)]), (26, #[I r, I c, (.slice A' m.length cp')]), (82, #[.func (.func 73) #[] #[]]), (26, #[I 0, I 0, .slice none 0 0])] w' → (∀ o, w'.cell? ⟨w.heap.size, o, none⟩ = #[I r, I c, (.slice A l.length cp)][o]?) ∧ (∀ o, w'.cell? ⟨w.heap.size + 1, o, none⟩ = #[I r, I c, (.slice A' m.length cp')][o]?)) := Lib.hid (fun w' h => ⟨h.r0.cell, h.r1.cell⟩)
  have y0 := N.out.r0.cell
  have y1 := N.out.r1.cell
  go_enter Try.func72, Try.ntmps72
  go_wp2_with fail
  go_region_held3 (fun w' => (∀ o, w'.cell? ⟨w.heap.size, o, none⟩ = #[I r, I c, (.slice A l.length cp)][o]?) ∧ (∀ o, w'.cell? ⟨w.heap.size + 1, o, none⟩ = #[I r, I c, (.slice A' m.length cp')][o]?))
    (first | with_reducible exact KK.out _ N3.out | with_reducible exact KK.out _ N2.out | with_reducible exact KK.out _ N.out.drew | with_reducible exact KK.out _ N.out)
    (first
      | (go_at_call 77
         refine (O2.out _ (HA'.out.below N2.out.be)).mono ?_
         rintro e w3 ⟨rfl, hb⟩
         have N3 := Lib.hid (N2.out.below hb)
         clear hb)
      | (go_at_call 77
         refine (O1.out _ (HA.out.below N.out.drew.be)).mono ?_
         rintro e w2 ⟨rfl, hb⟩
         have N2 := Lib.hid (N.out.drew.below hb)
         clear hb))
  have x1 := N3.out.r0.cell
  have t1 := N3.out.r0.lt
  have hmf := hmf
  go_wp2_with (go_at_call 77
               refine (O1.out _ (HA.out.below N3.out.be)).mono ?_
               rintro e w4 ⟨rfl, hb⟩
               have N4 := Lib.hid (N3.out.below hb)
               clear hb)
  refine (HM.out _ N4.out).mono ?_
  rintro e w5 ⟨A2, c2, rfl, ho, hb⟩
  have O := Lib.hid ho
  have N5 := Lib.hid (N4.out.below hb)
  have S4 := N4.out.be.size
  have L4 := N4.out.r3.lt
  clear ho hb x1 t1
  have x3 := N5.out.r3.cell
  have g3 := N5.out.r3.free
  have t3 := N5.out.r3.lt
  go_wp2
  refine bodyPost_ret (res3tt rfl rfl ((N5.out.r3.fill3 _ _ _).alloc _)) rfl ⟨_, _, rfl, ?_, (Below.fill3 N5.out.be (by omega) _ _ _).alloc (by have := N5.out.be.size; simp; omega) _⟩
  exact ((O.out.fill3 (by omega) _ _ _).alloc _).lower (by omega)
set_option maxRecDepth 100000 in
set_option maxHeartbeats 4000000 in
theorem each_half_bad (r c r' c' : Int) (A A' : Option Addr) (cp cp' : Nat) (l m : List Int) (w : World) (hne : ¬ (r = r' ∧ c = c')) (hA : Rd w A l) (hA' : Rd w A' m) (hcp : l.length ≤ cp) (hcp' : m.length ≤ cp') :
    Calls Try.prog 72 #[.agg #[I r, I c, (.slice A l.length cp)], .agg #[I r', I c', (.slice A' m.length cp')], .func (.func 73) #[] #[]] w fun e w' => e = .returned (.tuple #[.agg #[I 0, I 0, .slice none 0 0], .bool false, I 9]) ∧ Below w.heap.size w w' := by
  have N : Hid (Scene w [(26, #[I r, I c, (.slice A l.length cp)]), (26, #[I r', I c', (.slice A' m.length cp')]), (82, #[.func (.func 73) #[] #[]]), (26, #[I 0, I 0, .slice none 0 0])] ((((w.alloc (.cells #[I r, I c, (.slice A l.length cp)] 26)).alloc (.cells #[I r', I c', (.slice A' m.length cp')] 26)).alloc (.cells #[.func (.func 73) #[] #[]] 82)).alloc (.cells #[I 0, I 0, .slice none 0 0] 26))) := Lib.hid (((((Scene.none w).push (by simp) _ _).push (by simp) _ _).push (by simp) _ _).push (by simp) _ _)
  have O1 := Lib.hid (fun w' h => of_calls r c A l cp w' h hcp)
  have O2 := Lib.hid (fun w' h => of_calls r' c' A' m cp' w' h hcp')
  have HA := Lib.hid hA
  have HA' := Lib.hid hA'
  have hne2 : (r == r' && (c == c')) = false := by
    cases h : (r == r' && (c == c')) with
    | false => rfl
    | true => simp at h; exact absurd h hne
  clear hA hA' hcp hcp' hne
  have KK : Hid (∀ w', Scene w [(26, #[I r, I c, (.slice A l.length cp)]), (26, #[I r', I c', (.slice A' m.length cp')]), (82, #[.func (.func 73) #[] #[]]), (26, #[I 0, I 0, .slice none 0 0])] w' → (∀ o, w'.cell? ⟨w.heap.size, o, none⟩ = #[I r, I c, (.slice A l.length cp)][o]?) ∧ (∀ o, w'.cell? ⟨w.heap.size + 1, o, none⟩ = #[I r', I c', (.slice A' m.length cp')][o]?)) := Lib.hid (fun w' h => ⟨h.r0.cell, h.r1.cell⟩)
  have y0 := N.out.r0.cell
  have y1 := N.out.r1.cell
  go_enter Try.func72, Try.ntmps72
  go_wp2_with fail
  go_region_held3 (fun w' => (∀ o, w'.cell? ⟨w.heap.size, o, none⟩ = #[I r, I c, (.slice A l.length cp)][o]?) ∧ (∀ o, w'.cell? ⟨w.heap.size + 1, o, none⟩ = #[I r', I c', (.slice A' m.length cp')][o]?))
    (first | with_reducible exact KK.out _ N3.out | with_reducible exact KK.out _ N2.out | with_reducible exact KK.out _ N.out.drew | with_reducible exact KK.out _ N.out)
    (first
      | (go_at_call 77
         refine (O2.out _ (HA'.out.below N2.out.be)).mono ?_
         rintro e w3 ⟨rfl, hb⟩
         have N3 := Lib.hid (N2.out.below hb)
         clear hb)
      | (go_at_call 77
         refine (O1.out _ (HA.out.below N.out.drew.be)).mono ?_
         rintro e w2 ⟨rfl, hb⟩
         have N2 := Lib.hid (N.out.drew.below hb)
         clear hb))
  have x3 := N3.out.r3.cell
  have g3 := N3.out.r3.free
  have t3 := N3.out.r3.lt
  go_wp2
  exact bodyPost_ret (res3tt rfl rfl (N3.out.r3.fill3 _ _ _)) rfl ⟨rfl, Below.fill3 N3.out.be (by omega) _ _ _⟩
set_option maxRecDepth 100000 in
set_option maxHeartbeats 4000000 in
theorem mat_add (r c : Nat) (A A' : Option Addr) (cp cp' : Nat) (l m : List Int) (w : World) (hr : r ≤ 8) (hc : c ≤ 8) (hl : l.length = r * c) (hm : m.length = r * c) (hA : Rd w A l) (hA' : Rd w A' m) (hcp : l.length ≤ cp) (hcp' : m.length ≤ cp') :
    Calls Try.prog 47 #[.agg #[I r, I c, (.slice A l.length cp)], .agg #[I r, I c, (.slice A' m.length cp')]] w fun e w' => ∃ v, e = .returned (.tuple #[.agg #[I r, I c, v], .bool (eachB addZ r c l m), I 0]) ∧ Own w' w.heap.size v (eachL addZ r c l m) ∧ Below w.heap.size w w' := by
  have N : Hid (Scene w [(26, #[I r, I c, (.slice A l.length cp)]), (26, #[I r, I c, (.slice A' m.length cp')]), (26, #[I 0, I 0, .slice none 0 0])] (((w.alloc (.cells #[I r, I c, (.slice A l.length cp)] 26)).alloc (.cells #[I r, I c, (.slice A' m.length cp')] 26)).alloc (.cells #[I 0, I 0, .slice none 0 0] 26))) := Lib.hid ((((Scene.none w).push (by simp) _ _).push (by simp) _ _).push (by simp) _ _)
  have HM := Lib.hid (each_add r c A A' cp cp' l m _ hr hc hl hm (hA.below N.out.be) (hA'.below N.out.be) hcp hcp')
  obtain ⟨L, hL⟩ : ∃ L, eachL addZ r c l m = L := ⟨_, rfl⟩
  obtain ⟨b, hb⟩ : ∃ b, eachB addZ r c l m = b := ⟨_, rfl⟩
  rw [hL, hb] at HM ⊢
  clear hr hc hl hm hA hA' hcp hcp' hL hb
  go_enter Try.func47, Try.ntmps47
  go_wp2_with fail
  refine HM.out.mono ?_
  rintro e w5 ⟨A2, c2, rfl, ho, hb⟩
  have O := Lib.hid ho
  have N5 := Lib.hid (N.out.below hb)
  clear ho hb N HM
  have x3 := N5.out.r2.cell
  have g3 := N5.out.r2.free
  have t3 := N5.out.r2.lt
  go_wp2
  refine bodyPost_ret (res3tt rfl rfl (N5.out.r2.fill3 _ _ _)) rfl ⟨_, rfl, ?_, Below.fill3 N5.out.be (by omega) _ _ _⟩
  exact (O.out.fill3 (by simp) _ _ _).lower (by simp; omega)
set_option maxRecDepth 100000 in
set_option maxHeartbeats 4000000 in
theorem mat_add_bad (r c r' c' : Int) (A A' : Option Addr) (cp cp' : Nat) (l m : List Int) (w : World) (hne : ¬ (r = r' ∧ c = c')) (hA : Rd w A l) (hA' : Rd w A' m) (hcp : l.length ≤ cp) (hcp' : m.length ≤ cp') :
    Calls Try.prog 47 #[.agg #[I r, I c, (.slice A l.length cp)], .agg #[I r', I c', (.slice A' m.length cp')]] w fun e w' => e = .returned (.tuple #[.agg #[I 0, I 0, .slice none 0 0], .bool false, I 9]) ∧ Below w.heap.size w w' := by
  have N : Hid (Scene w [(26, #[I r, I c, (.slice A l.length cp)]), (26, #[I r', I c', (.slice A' m.length cp')]), (26, #[I 0, I 0, .slice none 0 0])] (((w.alloc (.cells #[I r, I c, (.slice A l.length cp)] 26)).alloc (.cells #[I r', I c', (.slice A' m.length cp')] 26)).alloc (.cells #[I 0, I 0, .slice none 0 0] 26))) := Lib.hid ((((Scene.none w).push (by simp) _ _).push (by simp) _ _).push (by simp) _ _)
  have HM := Lib.hid (each_add_bad r c r' c' A A' cp cp' l m _ hne (hA.below N.out.be) (hA'.below N.out.be) hcp hcp')
  clear hA hA' hcp hcp' hne
  go_enter Try.func47, Try.ntmps47
  go_wp2_with fail
  refine HM.out.mono ?_
  rintro e w5 ⟨rfl, hb⟩
  have N5 := Lib.hid (N.out.below hb)
  clear hb N HM
  have x3 := N5.out.r2.cell
  have g3 := N5.out.r2.free
  have t3 := N5.out.r2.lt
  go_wp2
  exact bodyPost_ret (res3tt rfl rfl (N5.out.r2.fill3 _ _ _)) rfl ⟨rfl, Below.fill3 N5.out.be (by omega) _ _ _⟩
set_option maxRecDepth 100000 in
set_option maxHeartbeats 4000000 in
theorem mat_sub (r c : Nat) (A A' : Option Addr) (cp cp' : Nat) (l m : List Int) (w : World) (hr : r ≤ 8) (hc : c ≤ 8) (hl : l.length = r * c) (hm : m.length = r * c) (hA : Rd w A l) (hA' : Rd w A' m) (hcp : l.length ≤ cp) (hcp' : m.length ≤ cp') :
    Calls Try.prog 71 #[.agg #[I r, I c, (.slice A l.length cp)], .agg #[I r, I c, (.slice A' m.length cp')]] w fun e w' => ∃ v, e = .returned (.tuple #[.agg #[I r, I c, v], .bool (eachB subZ r c l m), I 0]) ∧ Own w' w.heap.size v (eachL subZ r c l m) ∧ Below w.heap.size w w' := by
  have N : Hid (Scene w [(26, #[I r, I c, (.slice A l.length cp)]), (26, #[I r, I c, (.slice A' m.length cp')]), (26, #[I 0, I 0, .slice none 0 0])] (((w.alloc (.cells #[I r, I c, (.slice A l.length cp)] 26)).alloc (.cells #[I r, I c, (.slice A' m.length cp')] 26)).alloc (.cells #[I 0, I 0, .slice none 0 0] 26))) := Lib.hid ((((Scene.none w).push (by simp) _ _).push (by simp) _ _).push (by simp) _ _)
  have HM := Lib.hid (each_sub r c A A' cp cp' l m _ hr hc hl hm (hA.below N.out.be) (hA'.below N.out.be) hcp hcp')
  obtain ⟨L, hL⟩ : ∃ L, eachL subZ r c l m = L := ⟨_, rfl⟩
  obtain ⟨b, hb⟩ : ∃ b, eachB subZ r c l m = b := ⟨_, rfl⟩
  rw [hL, hb] at HM ⊢
  clear hr hc hl hm hA hA' hcp hcp' hL hb
  go_enter Try.func71, Try.ntmps71
  go_wp2_with fail
  refine HM.out.mono ?_
  rintro e w5 ⟨A2, c2, rfl, ho, hb⟩
  have O := Lib.hid ho
  have N5 := Lib.hid (N.out.below hb)
  clear ho hb N HM
  have x3 := N5.out.r2.cell
  have g3 := N5.out.r2.free
  have t3 := N5.out.r2.lt
  go_wp2
  refine bodyPost_ret (res3tt rfl rfl (N5.out.r2.fill3 _ _ _)) rfl ⟨_, rfl, ?_, Below.fill3 N5.out.be (by omega) _ _ _⟩
  exact (O.out.fill3 (by simp) _ _ _).lower (by simp; omega)
set_option maxRecDepth 100000 in
set_option maxHeartbeats 4000000 in
theorem mat_sub_bad (r c r' c' : Int) (A A' : Option Addr) (cp cp' : Nat) (l m : List Int) (w : World) (hne : ¬ (r = r' ∧ c = c')) (hA : Rd w A l) (hA' : Rd w A' m) (hcp : l.length ≤ cp) (hcp' : m.length ≤ cp') :
    Calls Try.prog 71 #[.agg #[I r, I c, (.slice A l.length cp)], .agg #[I r', I c', (.slice A' m.length cp')]] w fun e w' => e = .returned (.tuple #[.agg #[I 0, I 0, .slice none 0 0], .bool false, I 9]) ∧ Below w.heap.size w w' := by
  have N : Hid (Scene w [(26, #[I r, I c, (.slice A l.length cp)]), (26, #[I r', I c', (.slice A' m.length cp')]), (26, #[I 0, I 0, .slice none 0 0])] (((w.alloc (.cells #[I r, I c, (.slice A l.length cp)] 26)).alloc (.cells #[I r', I c', (.slice A' m.length cp')] 26)).alloc (.cells #[I 0, I 0, .slice none 0 0] 26))) := Lib.hid ((((Scene.none w).push (by simp) _ _).push (by simp) _ _).push (by simp) _ _)
  have HM := Lib.hid (each_sub_bad r c r' c' A A' cp cp' l m _ hne (hA.below N.out.be) (hA'.below N.out.be) hcp hcp')
  clear hA hA' hcp hcp' hne
  go_enter Try.func71, Try.ntmps71
  go_wp2_with fail
  refine HM.out.mono ?_
  rintro e w5 ⟨rfl, hb⟩
  have N5 := Lib.hid (N.out.below hb)
  clear hb N HM
  have x3 := N5.out.r2.cell
  have g3 := N5.out.r2.free
  have t3 := N5.out.r2.lt
  go_wp2
  exact bodyPost_ret (res3tt rfl rfl (N5.out.r2.fill3 _ _ _)) rfl ⟨rfl, Below.fill3 N5.out.be (by omega) _ _ _⟩
end Go.Proofs.Ytninmcmajbfccaa.KK

/- Layer 3: a matrix scaled; products. -/
namespace Go.Proofs.Ytninmcmajbfccaa.KK
open Go.RowKit Go.Proofs.YtninmcmajbfccaaW.PrintWords Go.Proofs.YtninmcmajbfccaaW.PrintLast Go.Proofs.YtninmcmajbfccaaW.PrintMore
set_option linter.unusedVariables false
set_option linter.unusedSimpArgs false
def scaleL (r c : Nat) (l : List Int) (q : Int) : List Int := upto c (fun i k => (mulZ (l.getD (i * c + k) 0) q).1) r
def scaleB (r c : Nat) (l : List Int) (q : Int) : Bool := anyTo c (fun i k => (mulZ (l.getD (i * c + k) 0) q).2) r
theorem enters89 : Enters 89 := enters Try.func89 rfl rfl
theorem enters82 : Enters 82 := enters Try.func82 rfl rfl
set_option maxRecDepth 100000 in
set_option maxHeartbeats 4000000 in
theorem tells_scale (r c : Nat) (A : Option Addr) (cp : Nat) (g : Nat) (q : Int) (l : List Int) (w : World) (hr : r ≤ 8) (hc : c ≤ 8) (hl : l.length = r * c) (hA : Rd w A l)
    (R : Row w g 26 #[I r, I c, (.slice A l.length cp)]) (R' : Row w (g + 1) 22 #[I q]) :
    Tells w 89 #[.pointer (some ⟨g, 0, none⟩), .pointer (some ⟨g + 1, 0, none⟩)] r c (fun i k => (mulZ (l.getD (i * c + k) 0) q).1) (fun i k => (mulZ (l.getD (i * c + k) 0) q).2) := by
  intro i k w' hi hk hb
  have R1 := Lib.hid (R.below hb R.lt)
  have R2 := Lib.hid (R'.below hb R'.lt)
  have hle : r * c ≤ 8 * 8 := Nat.mul_le_mul hr hc
  have hlt : i * c + k < r * c := idx_lt hi hk
  have H1 := Lib.hid (fun w' h => at_calls r c A cp l i k w' h (by rw [hl]; exact hlt) (by rw [hl]; omega))
  have A1 := Lib.hid (hA.below hb)
  obtain ⟨x, hx⟩ : ∃ x, l.getD (i * c + k) 0 = x := ⟨_, rfl⟩
  rw [hx] at H1
  show Calls Try.prog 89 #[I i, I k, .pointer (some ⟨g, 0, none⟩), .pointer (some ⟨g + 1, 0, none⟩)] w' fun e w'' => e = .returned (.tuple #[I (mulZ (l.getD (i * c + k) 0) q).1, .bool (mulZ (l.getD (i * c + k) 0) q).2]) ∧ Below w'.heap.size w' w''
  rw [hx]
  have H3 := Lib.hid (fun w => mul_calls x q w)
  obtain ⟨z, hz⟩ : ∃ z, mulZ x q = z := ⟨_, rfl⟩
  rw [hz] at H3 ⊢
  obtain ⟨z1, z2⟩ := z
  clear hb R R' hA hr hc hle hl hx hz hlt
  have K : Hid (∀ w2, Below w'.heap.size w' w2 → (∀ o, w2.cell? ⟨g, o, none⟩ = #[I r, I c, (.slice A l.length cp)][o]?) ∧ (∀ o, w2.cell? ⟨g + 1, o, none⟩ = #[I q][o]?)) := Lib.hid (fun w2 hb => ⟨(R1.out.below hb R1.out.lt).cell, (R2.out.below hb R2.out.lt).cell⟩)
  have B0 := Lib.hid (Below.refl w'.heap.size w')
  have B1 := Lib.hid B0.out.drew
  have x2 := R1.out.cell
  have x3 := R2.out.cell
  clear R1 R2
  go_enter Try.func89, Try.ntmps89
  go_wp2_with fail
  go_region_held3 (fun w2 => (∀ o, w2.cell? ⟨g, o, none⟩ = #[I r, I c, (.slice A l.length cp)][o]?) ∧ (∀ o, w2.cell? ⟨g + 1, o, none⟩ = #[I q][o]?))
    (first | with_reducible exact K.out _ B3.out | with_reducible exact K.out _ B2.out | with_reducible exact K.out _ B1.out | with_reducible exact K.out _ B0.out)
    (first
      | (go_at_call 35
         refine (H3.out _).mono ?_
         rintro e w4 ⟨rfl, hb⟩
         have B3 := Lib.hid (B2.out.trans (hb.mono B2.out.size))
         clear hb)
      | (go_at_call 80
         refine (H1.out _ (A1.out.below B1.out)).mono ?_
         rintro e w2 ⟨rfl, hb⟩
         have B2 := Lib.hid (B1.out.trans (hb.mono B1.out.size))
         clear hb))
  all_goals
    go_wp2
    go_ret2
    exact ⟨rfl, B3.out⟩
set_option maxRecDepth 100000 in
set_option maxHeartbeats 4000000 in
theorem mat_scale (r c : Nat) (A : Option Addr) (cp : Nat) (l : List Int) (q : Int) (w : World) (hr : r ≤ 8) (hc : c ≤ 8) (hl : l.length = r * c) (hA : Rd w A l) (hcp : l.length ≤ cp) :
    Calls Try.prog 69 #[.agg #[I r, I c, (.slice A l.length cp)], I q] w fun e w' => ∃ v, e = .returned (.tuple #[.agg #[I r, I c, v], .bool (scaleB r c l q)]) ∧ Own w' w.heap.size v (scaleL r c l q) ∧ Below w.heap.size w w' := by
  have N : Hid (Scene w [(26, #[I r, I c, (.slice A l.length cp)]), (22, #[I q]), (26, #[I 0, I 0, .slice none 0 0])] (((w.alloc (.cells #[I r, I c, (.slice A l.length cp)] 26)).alloc (.cells #[I q] 22)).alloc (.cells #[I 0, I 0, .slice none 0 0] 26))) := Lib.hid ((((Scene.none w).push (by simp) _ _).push (by simp) _ _).push (by simp) _ _)
  have O1 := Lib.hid (fun w' h => of_calls r c A l cp w' h hcp)
  have HA := Lib.hid hA
  obtain ⟨L, hL⟩ : ∃ L, scaleL r c l q = L := ⟨_, rfl⟩
  obtain ⟨b, hb⟩ : ∃ b, scaleB r c l q = b := ⟨_, rfl⟩
  have HM := Lib.hid (fun w' (h : Scene w [(26, #[I r, I c, (.slice A l.length cp)]), (22, #[I q]), (26, #[I 0, I 0, .slice none 0 0])] w') => made_to 89 #[.pointer (some ⟨w.heap.size, 0, none⟩), .pointer (some ⟨w.heap.size + 1, 0, none⟩)] r c _ _ w' L b hL hb hr hc enters89 (tells_scale r c A cp w.heap.size q l w' hr hc hl (hA.below h.be) h.r0 h.r1))
  rw [hL, hb]
  clear hr hc hl hA hcp hL hb
  have hmf := hmf
  go_enter Try.func69, Try.ntmps69
  go_wp2_with fail
  refine (O1.out _ (HA.out.below N.out.be)).mono ?_
  rintro e w4 ⟨rfl, hb⟩
  have N4 := Lib.hid (N.out.below hb)
  clear hb N
  go_wp2_with fail
  refine (HM.out _ N4.out).mono ?_
  rintro e w5 ⟨A2, c2, rfl, ho, hb⟩
  have O := Lib.hid ho
  have N5 := Lib.hid (N4.out.below hb)
  have L4 := N4.out.r2.lt
  clear ho hb
  have x3 := N5.out.r2.cell
  have g3 := N5.out.r2.free
  have t3 := N5.out.r2.lt
  go_wp2
  refine bodyPost_ret (res3t rfl rfl (N5.out.r2.fill3 _ _ _)) rfl ⟨_, rfl, ?_, Below.fill3 N5.out.be (by omega) _ _ _⟩
  exact (O.out.fill3 (by omega) _ _ _).lower (by omega)
/-- the sum ahead of place j -/
def dotZ (c1 c2 : Nat) (l m : List Int) (i k : Nat) : Nat → Int × Bool
  | 0 => (0, false)
  | j + 1 =>
    let p := mulZ (l.getD (i * c1 + j) 0) (m.getD (j * c2 + k) 0)
    let t := addZ (dotZ c1 c2 l m i k j).1 p.1
    (t.1, (dotZ c1 c2 l m i k j).2 || p.2 || t.2)
def mulL (r c1 c2 : Nat) (l m : List Int) : List Int := upto c2 (fun i k => (dotZ c1 c2 l m i k c1).1) r
def mulB (r c1 c2 : Nat) (l m : List Int) : Bool := anyTo c2 (fun i k => (dotZ c1 c2 l m i k c1).2) r
set_option maxRecDepth 100000 in
set_option maxHeartbeats 4000000 in
theorem tells_mul (r c1 c2 : Nat) (A A' : Option Addr) (cp cp' g : Nat) (l m : List Int) (w : World) (hr : r ≤ 8) (hc1 : c1 ≤ 8) (hc2 : c2 ≤ 8) (hl : l.length = r * c1) (hm : m.length = c1 * c2) (hA : Rd w A l) (hA' : Rd w A' m)
    (R : Row w g 26 #[I r, I c1, (.slice A l.length cp)]) (R' : Row w (g + 1) 26 #[I c1, I c2, (.slice A' m.length cp')]) :
    Tells w 82 #[.pointer (some ⟨g, 0, none⟩), .pointer (some ⟨g + 1, 0, none⟩)] r c2 (fun i k => (dotZ c1 c2 l m i k c1).1) (fun i k => (dotZ c1 c2 l m i k c1).2) := by
  intro i k w' hi hk hb
  have R1 := Lib.hid (R.below hb R.lt)
  have R2 := Lib.hid (R'.below hb R'.lt)
  have hle : r * c1 ≤ 8 * 8 := Nat.mul_le_mul hr hc1
  have hle2 : c1 * c2 ≤ 8 * 8 := Nat.mul_le_mul hc1 hc2
  have H1 := Lib.hid (fun w' j h (hj : j < c1) => at_calls r c1 A cp l i j w' h (by rw [hl]; exact idx_lt hi hj) (by rw [hl]; omega))
  have H2 := Lib.hid (fun w' j h (hj : j < c1) => at_calls c1 c2 A' cp' m j k w' h (by rw [hm]; exact idx_lt hj hk) (by rw [hm]; omega))
  have A1 := Lib.hid (hA.below hb)
  have A2 := Lib.hid (hA'.below hb)
  have HC := Lib.hid hc1
  show Calls Try.prog 82 #[I i, I k, .pointer (some ⟨g, 0, none⟩), .pointer (some ⟨g + 1, 0, none⟩)] w' fun e w'' => e = .returned (.tuple #[I (dotZ c1 c2 l m i k c1).1, .bool (dotZ c1 c2 l m i k c1).2]) ∧ Below w'.heap.size w' w''
  obtain ⟨f, hf⟩ : ∃ f, dotZ c1 c2 l m i k = f := ⟨_, rfl⟩
  have hs : ∀ j, f (j + 1) = ((addZ (f j).1 (mulZ (l.getD (i * c1 + j) 0) (m.getD (j * c2 + k) 0)).1).1, (f j).2 || (mulZ (l.getD (i * c1 + j) 0) (m.getD (j * c2 + k) 0)).2 || (addZ (f j).1 (mulZ (l.getD (i * c1 + j) 0) (m.getD (j * c2 + k) 0)).1).2) := fun j => by subst hf; rfl
  have h0 : f 0 = (0, false) := by subst hf; rfl
  rw [hf]
  have HF := Lib.hid hs
  have H0 := Lib.hid h0
  clear hb R R' hA hA' hr hc1 hc2 hle hle2 hl hm hf hs h0
  have K : Hid (∀ w2, Below w'.heap.size w' w2 → (∀ o, w2.cell? ⟨g, o, none⟩ = #[I r, I c1, (.slice A l.length cp)][o]?) ∧ (∀ o, w2.cell? ⟨g + 1, o, none⟩ = #[I c1, I c2, (.slice A' m.length cp')][o]?)) := Lib.hid (fun w2 hb => ⟨(R1.out.below hb R1.out.lt).cell, (R2.out.below hb R2.out.lt).cell⟩)
  have B0 := Lib.hid (Below.refl w'.heap.size w')
  have x2 := R1.out.cell
  have x3 := R2.out.cell
  clear R1 R2
  go_enter Try.func82, Try.ntmps82
  go_wp2_with fail
  go_loopw [8, 9, 17] (fun su od jj wr => ∃ (j : Nat) (sv : Int) (ov : Bool), j ≤ c1 ∧ jj = .int .i64 j ∧ su = .int .i64 sv ∧ od = .bool ov ∧ Hid (f j = (sv, ov)) ∧ Hid (Below w'.heap.size w' wr)) (fun _ _ jj _ => c1 - (intOf jj).toNat)
  case atStart => exact ⟨0, 0, false, by omega, rfl, rfl, rfl, Lib.hid H0.out, B0⟩
  case round =>
    clear B0
    obtain ⟨j, sv, ov, hj, rfl, rfl, rfl, F, B0⟩ := hrel
    clear x2 x3
    have x2 := (K.out _ B0.out).1
    have x3 := (K.out _ B0.out).2
    by_cases hjc : j = c1
    · subst hjc
      go_wp2
      go_ret2
      exact ⟨by rw [F.out]; rfl, B0.out⟩
    have hlt : (j : Int) < c1 := by omega
    have HJ := Lib.hid (show j < c1 by omega)
    have STEP : Hid (j + 1 ≤ c1 ∧ c1 - (j + 1) < c1 - j) := Lib.hid (by omega)
    have hw64 : IntKind.i64.wrap ((j : Int) + 1) = (j : Int) + 1 := by have := HC.out; simp [IntKind.wrap, IntKind.bits, IntKind.signed]; omega
    obtain ⟨x, hx⟩ : ∃ x, l.getD (i * c1 + j) 0 = x := ⟨_, rfl⟩
    obtain ⟨y, hy⟩ : ∃ y, m.getD (j * c2 + k) 0 = y := ⟨_, rfl⟩
    obtain ⟨p, hp⟩ : ∃ p, mulZ x y = p := ⟨_, rfl⟩
    obtain ⟨p1, p2⟩ := p
    obtain ⟨t, ht⟩ : ∃ t, addZ sv p1 = t := ⟨_, rfl⟩
    obtain ⟨t1, t2⟩ := t
    have F2 : Hid (f (j + 1) = (t1, ov || p2 || t2)) := Lib.hid (by rw [HF.out, F.out, hx, hy, hp]; dsimp only; rw [ht])
    have G1 := Lib.hid (fun w' h => H1.out w' j h HJ.out)
    have G2 := Lib.hid (fun w' h => H2.out w' j h HJ.out)
    have G3 := Lib.hid (fun w => mul_calls x y w)
    have G4 := Lib.hid (fun w => add_calls sv p1 w)
    rw [hx] at G1
    rw [hy] at G2
    rw [hp] at G3
    rw [ht] at G4
    dsimp only at G3 G4
    clear hx hy hp ht hj hjc
    have B1 := Lib.hid B0.out.drew
    go_wp2_with fail
    go_region_held3 (fun w2 => (∀ o, w2.cell? ⟨g, o, none⟩ = #[I r, I c1, (.slice A l.length cp)][o]?) ∧ (∀ o, w2.cell? ⟨g + 1, o, none⟩ = #[I c1, I c2, (.slice A' m.length cp')][o]?))
      (first | with_reducible exact K.out _ B4.out | with_reducible exact K.out _ B3.out | with_reducible exact K.out _ B2.out | with_reducible exact K.out _ B1.out | with_reducible exact K.out _ B0.out)
      (first
        | (go_at_call 35
           refine (G3.out _).mono ?_
           rintro e w4 ⟨rfl, hb⟩
           have B4 := Lib.hid (B3.out.trans (hb.mono B3.out.size))
           clear hb)
        | (go_at_call 80
           refine (G2.out _ (A2.out.below B2.out)).mono ?_
           rintro e w3 ⟨rfl, hb⟩
           have B3 := Lib.hid (B2.out.trans (hb.mono B2.out.size))
           clear hb)
        | (go_at_call 80
           refine (G1.out _ (A1.out.below B1.out)).mono ?_
           rintro e w2 ⟨rfl, hb⟩
           have B2 := Lib.hid (B1.out.trans (hb.mono B1.out.size))
           clear hb))
    go_wp2_with fail
    refine (G4.out _).mono ?_
    rintro e w5 ⟨rfl, hb⟩
    have B5 := Lib.hid (B4.out.trans (hb.mono B4.out.size))
    clear hb
    cases ov
    · cases p2
      all_goals
        go_wp2
        go_roundw
        case rel => exact ⟨j + 1, t1, _, STEP.out.1, by go_num, rfl, rfl, by simpa using F2, B5⟩
        case measure =>
          have h := STEP.out.2
          show c1 - ((j : Int) + 1).toNat < c1 - ((j : Int)).toNat
          rw [show ((j : Int) + 1).toNat = j + 1 by omega, show ((j : Int)).toNat = j by omega]
          exact h
    · go_wp2
      go_roundw
      case rel => exact ⟨j + 1, t1, _, STEP.out.1, by go_num, rfl, rfl, by simpa using F2, B5⟩
      case measure =>
        have h := STEP.out.2
        show c1 - ((j : Int) + 1).toNat < c1 - ((j : Int)).toNat
        rw [show ((j : Int) + 1).toNat = j + 1 by omega, show ((j : Int)).toNat = j by omega]
        exact h
set_option maxRecDepth 100000 in
set_option maxHeartbeats 4000000 in
theorem mat_mul (r c1 c2 : Nat) (A A' : Option Addr) (cp cp' : Nat) (l m : List Int) (w : World) (hr : r ≤ 8) (hc1 : c1 ≤ 8) (hc2 : c2 ≤ 8) (hl : l.length = r * c1) (hm : m.length = c1 * c2) (hA : Rd w A l) (hA' : Rd w A' m) :
    Calls Try.prog 46 #[.agg #[I r, I c1, (.slice A l.length cp)], .agg #[I c1, I c2, (.slice A' m.length cp')]] w fun e w' => ∃ v, e = .returned (.tuple #[.agg #[I r, I c2, v], .bool (mulB r c1 c2 l m), I 0]) ∧ Own w' w.heap.size v (mulL r c1 c2 l m) ∧ Below w.heap.size w w' := by
  have N : Hid (Scene w [(26, #[I r, I c1, (.slice A l.length cp)]), (26, #[I c1, I c2, (.slice A' m.length cp')]), (26, #[I 0, I 0, .slice none 0 0])] (((w.alloc (.cells #[I r, I c1, (.slice A l.length cp)] 26)).alloc (.cells #[I c1, I c2, (.slice A' m.length cp')] 26)).alloc (.cells #[I 0, I 0, .slice none 0 0] 26))) := Lib.hid ((((Scene.none w).push (by simp) _ _).push (by simp) _ _).push (by simp) _ _)
  obtain ⟨L, hL⟩ : ∃ L, mulL r c1 c2 l m = L := ⟨_, rfl⟩
  obtain ⟨b, hb⟩ : ∃ b, mulB r c1 c2 l m = b := ⟨_, rfl⟩
  have HM := Lib.hid (made_to 82 #[.pointer (some ⟨w.heap.size, 0, none⟩), .pointer (some ⟨w.heap.size + 1, 0, none⟩)] r c2 _ _ _ L b hL hb hr hc2 enters82 (tells_mul r c1 c2 A A' cp cp' w.heap.size l m _ hr hc1 hc2 hl hm (hA.below N.out.be) (hA'.below N.out.be) N.out.r0 N.out.r1))
  rw [hL, hb]
  clear hr hc1 hc2 hl hm hA hA' hL hb
  have hmf := hmf
  have e1 : ((c1 : Int) != (c1 : Int)) = false := by simp
  go_enter Try.func46, Try.ntmps46
  go_wp2_with fail
  refine HM.out.mono ?_
  rintro e w5 ⟨A2, c3, rfl, ho, hb⟩
  have O := Lib.hid ho
  have N5 := Lib.hid (N.out.below hb)
  clear ho hb N HM
  have x3 := N5.out.r2.cell
  have g3 := N5.out.r2.free
  have t3 := N5.out.r2.lt
  go_wp2
  refine bodyPost_ret (res3tt rfl rfl ((N5.out.r2.fill3 _ _ _).alloc _)) rfl ⟨_, rfl, ?_, (Below.fill3 N5.out.be (by omega) _ _ _).alloc (by have := N5.out.be.size; simp; omega) _⟩
  exact ((O.out.fill3 (by simp) _ _ _).alloc _).lower (by simp; omega)
set_option maxRecDepth 100000 in
set_option maxHeartbeats 4000000 in
theorem mat_mul_bad (r c1 r2 c2 : Int) (A A' : Option Addr) (cp cp' : Nat) (l m : List Int) (w : World) (hne : c1 ≠ r2) :
    Calls Try.prog 46 #[.agg #[I r, I c1, (.slice A l.length cp)], .agg #[I r2, I c2, (.slice A' m.length cp')]] w fun e w' => e = .returned (.tuple #[.agg #[I 0, I 0, .slice none 0 0], .bool false, I 9]) ∧ Below w.heap.size w w' := by
  have N : Hid (Scene w [(26, #[I r, I c1, (.slice A l.length cp)]), (26, #[I r2, I c2, (.slice A' m.length cp')]), (26, #[I 0, I 0, .slice none 0 0])] (((w.alloc (.cells #[I r, I c1, (.slice A l.length cp)] 26)).alloc (.cells #[I r2, I c2, (.slice A' m.length cp')] 26)).alloc (.cells #[I 0, I 0, .slice none 0 0] 26))) := Lib.hid ((((Scene.none w).push (by simp) _ _).push (by simp) _ _).push (by simp) _ _)
  have e1 : (c1 != r2) = true := by simpa using hne
  clear hne
  have x3 := N.out.r2.cell
  have g3 := N.out.r2.free
  go_enter Try.func46, Try.ntmps46
  go_wp2
  exact bodyPost_ret (res3tt rfl rfl N.out.r2) rfl ⟨rfl, N.out.be⟩
end Go.Proofs.Ytninmcmajbfccaa.KK
