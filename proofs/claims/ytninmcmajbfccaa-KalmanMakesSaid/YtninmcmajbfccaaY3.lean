import Derived.Test.YtninmcmajbfccaaY2
/- Joined and thinned by a program of this session's own (wip/pack2.py) out of its texts (wip/ of its repo); parts were laid by its own program (wip/print-patch.py over the kit's print) out of the translation; Lean checks all. -/
set_option maxRecDepth 100000
set_option maxHeartbeats 8000000
namespace Go.Proofs.Ytninmcmajbfccaa.PQ
open Go.RowKit Go.Proofs.aH.bK Go.Proofs.aH.dG Go.Proofs.aH.dJ
attribute [local go_sem] jS jQ kT kS ji jh jR jP
set_option linter.unusedVariables false
set_option linter.unusedSimpArgs false
attribute [local go_sem high] TZ
def sO.f (aQ : Int) (a_ : Int) (aY : List Int) : Option (Int × Int) := some (aQ, a_)
theorem sO.calls (aQ : Int) (a_ : Int) (cO : Option Addr) (cu : Nat) (aY : List Int) (r1 : Int) (r2 : Int) (w : World) (jl : Kd.C (Kd.int .i64) w cO aY.length aY) (jD : aY.length ≤ cu) (h : sO.f aQ a_ aY = some (r1, r2)) :
 Calls Try.prog 77 #[.agg #[.int .i64 aQ, .int .i64 a_, .slice cO aY.length cu]] w fun e w' => e = .returned (.agg #[.int .i64 r1, .int .i64 r2]) ∧ Below w.heap.size w w' := by
 have yz := Try.underlying26
 have anm := Try.underlying99
 have kC := ah.mk jl
 have lM := ah.mk jD
 clear jl jD
 have HB := ah.mk (Below.refl w.heap.size w)
 have H : (some (aQ, a_)) = some (r1, r2) := h
 clear h
 simp only [Option.some.injEq, Prod.mk.injEq] at H
 obtain ⟨rfl, rfl⟩ := H
 go_enter Try.func77, Try.ntmps77
 go_wp2_with (first | ((with_reducible refine dY (N := 1) rfl ?_); refine dH ?hg (N := 1) ?hd (cs := #[.int .i64 aQ, .int .i64 a_, .slice cO aY.length cu]) (t := 26) ?hr ?_; (case hd => rfl); (case hg => rfl); (case hr => first | (go_simp; done) | (go_simp; rfl)); intro zU hg w2 hbox hb; have bT := ah.mk (aI (by repeat (first | (with_reducible first | exact HB.out | apply au | apply af | apply ak) | exact HB.out)) hb); have dD := ah.mk (hbox); have dQ := ah.mk ((by rw [hg]; exact (aW (by repeat (first | (with_reducible first | exact HB.out | apply au | apply af | apply ak) | exact HB.out))) : w.heap.size ≤ zU)); have eH := ah.mk ((by rw [hg]; exact (aW (by repeat (first | (with_reducible first | exact HB.out | apply au | apply af | apply ak) | exact HB.out))) : w.heap.size ≤ zU)); clear HB; have HB := bT; have yP := dD; have amz := dQ; have QC := eH; clear bT dD dQ eH; clear hb hbox hg) | ((with_reducible refine dY (N := 2) rfl ?_); refine dH ?hg (N := 2) ?hd (cs := #[.int .i64 0, .int .i64 0]) (t := 99) ?hr ?_; (case hd => rfl); (case hg => rfl); (case hr => first | (go_simp; done) | (go_simp; rfl)); intro F9 hg w3 hbox hb; have bT := ah.mk (bg (g := zU) (o := .cells #[.int .i64 aQ, .int .i64 a_, .slice cO aY.length cu] 26 (0, 0)) (by (with_reducible repeat (first | refine ay ?_ _ | refine aC ?_ | refine az ?_ _)); exact yP.out) hb); have dD := ah.mk (aI (by repeat (first | (with_reducible first | exact HB.out | apply au | apply af | apply ak | refine aG ?_ QC.out) | exact HB.out)) hb); have dQ := ah.mk (hbox); have eH := ah.mk ((by rw [hg]; exact (aW (by repeat (first | (with_reducible first | exact HB.out | apply au | apply af | apply ak | refine aG ?_ QC.out) | exact HB.out))) : w.heap.size ≤ F9)); have iw := ah.mk ((by rw [hg]; exact (aW (by repeat (first | (with_reducible first | exact HB.out | apply au | apply af | apply ak | refine aG ?_ QC.out) | exact HB.out))) : w.heap.size ≤ F9)); have iQ := ah.mk ((by rw [hg]; exact Nat.ne_of_lt (dP (g := zU) (o := .cells #[.int .i64 aQ, .int .i64 a_, .slice cO aY.length cu] 26 (0, 0)) (by (with_reducible repeat (first | refine ay ?_ _ | refine aC ?_ | refine az ?_ _)); exact yP.out)) : zU ≠ F9)); have jk := ah.mk ((by rw [hg]; exact Nat.ne_of_gt (dP (g := zU) (o := .cells #[.int .i64 aQ, .int .i64 a_, .slice cO aY.length cu] 26 (0, 0)) (by (with_reducible repeat (first | refine ay ?_ _ | refine aC ?_ | refine az ?_ _)); exact yP.out)) : F9 ≠ zU)); clear yP; clear HB; have yP := bT; have HB := dD; have Me := dQ; have amy := eH; have ade := iw; have Sm := iQ; have Sl := jk; clear bT dD dQ eH iw iQ jk; clear hb hbox hg; have anU := Sm.out; have anS := Sl.out; have Oa : w3.cell? ⟨zU, 0, none⟩ = some (.int .i64 aQ) := (aj yP.out 0).trans rfl; have N_ : w3.cell? ⟨zU, 1, none⟩ = some (.int .i64 a_) := (aj yP.out 1).trans rfl; have NZ : w3.cell? ⟨zU, 2, none⟩ = some (.slice cO aY.length cu) := (aj yP.out 2).trans rfl; have NY := aA yP.out 0; have NW := aA yP.out 1; have NV := aA yP.out 2; have tu : w3.cell? ⟨F9, 0, none⟩ = some (.int .i64 0) := (aj Me.out 0).trans rfl; have tq : w3.cell? ⟨F9, 1, none⟩ = some (.int .i64 0) := (aj Me.out 1).trans rfl; have sV := aA Me.out 0; have sU := aA Me.out 1))
 refine bodyPost_ret (results_cell_row rfl _ _ F9 99 #[.int .i64 aQ, .int .i64 a_] (0, 0) _ rfl (by (with_reducible repeat (first | refine ay ?_ _ | refine aC ?_ | refine az ?_ _)); refine bQ (cs := #[.int .i64 aQ, .int .i64 0]) ?_ 1 _ rfl; (with_reducible repeat (first | refine ay ?_ _ | refine aC ?_ | refine az ?_ _)); refine bQ (cs := #[.int .i64 0, .int .i64 0]) ?_ 0 _ rfl; (with_reducible repeat (first | refine ay ?_ _ | refine aC ?_ | refine az ?_ _)); exact Me.out) Try.underlying99 rfl (by kernel_rfl)) rfl ?_
 exact ⟨by first | rfl | (simp [aU, aT] <;> rfl) | (simp [*, aU, aT] <;> rfl), by repeat (first | (with_reducible first | exact HB.out | apply au | apply af | apply ak | refine aG ?_ QC.out | refine aG ?_ ade.out) | exact HB.out)⟩
def jo.l0 : Nat → List Int → List Int → Int → Int → Option (Bool)
 | 0, _, _, _, _ => none
 | k + 1, x0, x1, x12, Ho => if Ho < x12 then (if 0 ≤ Ho then (if Ho < (x0.length : Int) then (if Ho < (x1.length : Int) then (if (rd x0 Ho) = (rd x1 Ho) then (jo.l0 k x0 x1 x12 (wrap64 (Ho + 1))) else (some false)) else (none)) else (none)) else (none)) else (some true)
def jo.f (k : Nat) (l0 : List Int) (l1 : List Int) : Option (Bool) := if (l0.length : Int) = (l1.length : Int) then (jo.l0 k l0 l1 (l0.length : Int) 0) else (some false)
theorem jo.calls (k : Nat) (A0 : Option Addr) (c0 : Nat) (l0 : List Int) (A1 : Option Addr) (c1 : Nat) (l1 : List Int) (r : Bool) (w : World) (hr0 : Kd.C (Kd.int .i64) w A0 l0.length l0) (hc0 : l0.length ≤ c0) (hr1 : Kd.C (Kd.int .i64) w A1 l1.length l1) (hc1 : l1.length ≤ c1) (h : jo.f k l0 l1 = some r) :
 Calls Try.prog 78 #[.slice A0 l0.length c0, .slice A1 l1.length c1] w fun e w' => e = .returned (.bool r) ∧ dK w w' := by
 have HR0 := ah.mk hr0
 have XX := ah.mk hc0
 clear hr0 hc0
 have HR1 := ah.mk hr1
 have HC1 := ah.mk hc1
 clear hr1 hc1
 have H : (if (l0.length : Int) = (l1.length : Int) then (jo.l0 k l0 l1 (l0.length : Int) 0) else (some false)) = some r := h
 clear h
 by_cases c3 : (l0.length : Int) = (l1.length : Int)
 · rw [if_pos c3] at H
   have RS : ((l0.length : Int) == (l1.length : Int)) = true := beq_iff_eq.mpr c3
   have abD : ((l0.length : Int) != (l1.length : Int)) = false := bne_eq_false_iff_eq.mpr c3
   have abC : (l0.length == l1.length) = true := by first | simpa using c3 | (simp at c3 ⊢; omega)
   clear c3
   have H' := ah.mk H
   clear H
   go_enter Try.func78, Try.ntmps78
   go_wp2
   repeat (go_quiet (fail); try go_wp2)
   go_loopg [13] k (fun kq v13 w' => ∃ (ku : Int), v13 = .int .i64 ku ∧ ah (jo.l0 kq l0 l1 (l0.length : Int) ku = some r) ∧ ah (kq ≤ k) ∧ dK w w')
   case atStart => exact ⟨(0), (by first | rfl | (simp; done) | (simp [*]; done)), H', ⟨Nat.le_refl _⟩, by repeat (first | exact dK.refl _ | apply dK.step)⟩
   case round =>
    clear H'
    try clear c1
    try clear p2
    try clear c3
    try clear RS
    try clear abD
    try clear abC
    obtain ⟨ku, rfl, HA, Aq, ⟨m1, rfl⟩⟩ := hrel
    cases gk with
    | zero => exact absurd HA.out (by simp [jo.l0])
    | succ k1 =>
      have H := HA.out
      clear HA
      simp only [jo.l0] at H
      by_cases c4 : ku < (l0.length : Int)
      · rw [if_pos c4] at H
        have ru : decide (ku < (l0.length : Int)) = true := decide_eq_true c4
        clear c4
        by_cases c5 : 0 ≤ ku
        · rw [if_pos c5] at H
          have uT : decide (0 ≤ ku) = true := decide_eq_true c5
          clear c5
          by_cases c6 : ku < (l0.length : Int)
          · rw [if_pos c6] at H
            have wC : decide (ku < (l0.length : Int)) = true := decide_eq_true c6
            clear c6
            by_cases c7 : ku < (l1.length : Int)
            · rw [if_pos c7] at H
              have yG : decide (ku < (l1.length : Int)) = true := decide_eq_true c7
              clear c7
              by_cases c8 : (rd l0 ku) = (rd l1 ku)
              · rw [if_pos c8] at H
                have Gm : ((rd l0 ku) == (rd l1 ku)) = true := beq_iff_eq.mpr c8
                have ai5 : ((rd l0 ku) != (rd l1 ku)) = false := bne_eq_false_iff_eq.mpr c8
                clear c8
                have H' := ah.mk H
                clear H
                have NJ : 0 ≤ (ku : Int) := of_decide_eq_true (by first | (with_reducible assumption) | assumption)
                have Nu : ku < (l0.length : Int) := of_decide_eq_true (by first | (with_reducible assumption) | assumption)
                obtain ⟨ab2, Zv, Vs⟩ := Kd.jv HR0.out ku NJ Nu
                cases Zv
                replace NJ := eq_true NJ
                replace Nu := eq_true Nu
                have NI : 0 ≤ (ku : Int) := of_decide_eq_true (by first | (with_reducible assumption) | assumption)
                have Ns : ku < (l1.length : Int) := of_decide_eq_true (by first | (with_reducible assumption) | assumption)
                obtain ⟨ab1, Zu, Vr⟩ := Kd.jv HR1.out ku NI Ns
                cases Zu
                replace NI := eq_true NI
                replace Ns := eq_true Ns
                go_wp2
                repeat (go_quiet (fail); try go_wp2)
                go_roundg k1
                case measure => have := Aq.out; omega
                case rel => exact ⟨(wrap64 (ku + 1)), (by first | rfl | (simp; done) | (simp [*]; done)), H', ⟨by have := Aq.out; omega⟩, by repeat (first | exact dK.refl _ | apply dK.step)⟩
              · rw [if_neg c8] at H
                have Gm : ((rd l0 ku) == (rd l1 ku)) = false := beq_eq_false_iff_ne.mpr c8
                have ai5 : ((rd l0 ku) != (rd l1 ku)) = true := bne_iff_ne.mpr c8
                obtain rfl := Option.some.inj H
                have NJ : 0 ≤ (ku : Int) := of_decide_eq_true (by first | (with_reducible assumption) | assumption)
                have Nu : ku < (l0.length : Int) := of_decide_eq_true (by first | (with_reducible assumption) | assumption)
                obtain ⟨ab2, Zv, Vs⟩ := Kd.jv HR0.out ku NJ Nu
                cases Zv
                replace NJ := eq_true NJ
                replace Nu := eq_true Nu
                have NI : 0 ≤ (ku : Int) := of_decide_eq_true (by first | (with_reducible assumption) | assumption)
                have Ns : ku < (l1.length : Int) := of_decide_eq_true (by first | (with_reducible assumption) | assumption)
                obtain ⟨ab1, Zu, Vr⟩ := Kd.jv HR1.out ku NI Ns
                cases Zu
                replace NI := eq_true NI
                replace Ns := eq_true Ns
                go_wp2
                repeat (go_quiet (fail); try go_wp2)
                go_ret
                exact ⟨by first | rfl | (simp; done) | (simp [*]; done), by repeat (first | exact dK.refl _ | apply dK.step)⟩
            · rw [if_neg c7] at H
              exact absurd H (by simp)
          · rw [if_neg c6] at H
            exact absurd H (by simp)
        · rw [if_neg c5] at H
          exact absurd H (by simp)
      · rw [if_neg c4] at H
        have ru : decide (ku < (l0.length : Int)) = false := decide_eq_false c4
        clear c4
        obtain rfl := Option.some.inj H
        go_wp2
        repeat (go_quiet (fail); try go_wp2)
        go_ret
        exact ⟨by first | rfl | (simp; done) | (simp [*]; done), by repeat (first | exact dK.refl _ | apply dK.step)⟩
 · rw [if_neg c3] at H
   have RS : ((l0.length : Int) == (l1.length : Int)) = false := beq_eq_false_iff_ne.mpr c3
   have abD : ((l0.length : Int) != (l1.length : Int)) = true := bne_iff_ne.mpr c3
   have abC : (l0.length == l1.length) = false := by first | simpa using c3 | (simp at c3 ⊢; omega)
   obtain rfl := Option.some.inj H
   go_enter Try.func78, Try.ntmps78
   go_wp2
   repeat (go_quiet (fail); try go_wp2)
   go_ret
   exact ⟨by first | rfl | (simp; done) | (simp [*]; done), by repeat (first | exact dK.refl _ | apply dK.step)⟩
def gX.f (k : Nat) (aQ : Int) (a_ : Int) (aY : List Int) (dS : Int) (dZ : Int) (dI : List Int) : Option (Bool) := (sO.f aQ a_ aY).bind fun LY => ((sO.f dS dZ dI).bind fun DY => (if (LY.1 == DY.1 && (LY.2 == DY.2)) = true then ((jo.f k aY dI).bind fun t112 => (some t112)) else (some false)))
def gX.T1 : Bool × List (List Nat × List Nat) := (true, [([], []), ([0], [0]), ([], []), ([2, 1], [2]), ([1, 3], [1, 3]), ([4, 3], [4]), ([5], [5]), ([6, 5], [5, 6]), ([5], [5]), ([8, 5], [5, 8]), ([7, 9, 5, 5], [5, 7, 9]), ([5, 10], [5, 10]), ([11, 10, 0, 1, 2, 3, 4, 5, 6, 7, 8, 9, 10, 11], [11])])
def gX.B1 : List Nat := [0, 1, 0, 7, 15, 31, 63, 127, 63, 319, 1023, 2047, 4095]
theorem gX.Va : qy .any (opsOf Try.f40 1) = gX.T1 := by kernel_rfl
theorem gX.Qq : pM gX.T1.2 gX.B1 = true := by kernel_rfl
theorem gX.calls (k : Nat) (aQ : Int) (a_ : Int) (cO : Option Addr) (cu : Nat) (aY : List Int) (dS : Int) (dZ : Int) (gY : Option Addr) (g_ : Nat) (dI : List Int) (r : Bool) (w : World) (jl : Kd.C (Kd.int .i64) w cO aY.length aY) (jD : aY.length ≤ cu) (oM : Kd.C (Kd.int .i64) w gY dI.length dI) (o9 : dI.length ≤ g_) (h : gX.f k aQ a_ aY dS dZ dI = some r) :
 Calls Try.prog 40 #[.agg #[.int .i64 aQ, .int .i64 a_, .slice cO aY.length cu], .agg #[.int .i64 dS, .int .i64 dZ, .slice gY dI.length g_]] w fun e w' => e = .returned (.bool r) ∧ Below w.heap.size w w' := by
 have yz := Try.underlying26
 have kC := ah.mk jl
 have lM := ah.mk jD
 clear jl jD
 have tV := ah.mk oM
 have vW := ah.mk o9
 clear oM o9
 have HB := ah.mk (Below.refl w.heap.size w)
 have H : ((sO.f aQ a_ aY).bind fun LY => ((sO.f dS dZ dI).bind fun DY => (if (LY.1 == DY.1 && (LY.2 == DY.2)) = true then ((jo.f k aY dI).bind fun t112 => (some t112)) else (some false)))) = some r := h
 clear h
 replace H := Option.bind_eq_some_iff.mp H
 obtain ⟨⟨t108, t109⟩, xU, H⟩ := H
 replace H : ((sO.f dS dZ dI).bind fun DY => (if (t108 == DY.1 && (t109 == DY.2)) = true then ((jo.f k aY dI).bind fun t112 => (some t112)) else (some false))) = some r := H
 have A3 := ah.mk xU
 clear xU
 replace H := Option.bind_eq_some_iff.mp H
 obtain ⟨⟨t110, t111⟩, IE, H⟩ := H
 replace H : (if (t108 == t110 && (t109 == t111)) = true then ((jo.f k aY dI).bind fun t112 => (some t112)) else (some false)) = some r := H
 have A4 := ah.mk IE
 clear IE
 by_cases c5 : (t108 == t110 && (t109 == t111)) = true
 · rw [if_pos c5] at H
   have uT : (t108 == t110 && (t109 == t111)) = true := c5
   (try (have ZA : decide (t108 = t110 && (t109 == t111)) = true := by simpa using c5))
   (try (have ai6 : (t108 == t110 && (t109 == t111)) = true := by simpa using c5))
   clear c5
   replace H := Option.bind_eq_some_iff.mp H
   obtain ⟨t112, U1, H⟩ := H
   replace H : (some t112) = some r := H
   have A6 := ah.mk U1
   clear U1
   obtain rfl := Option.some.inj H
   go_enter Try.func40, Try.ntmps40
   try go_wp2_with (first | ((with_reducible refine dY (N := 2) rfl ?_); refine dH ?hg (N := 2) ?hd (cs := #[.int .i64 aQ, .int .i64 a_, .slice cO aY.length cu]) (t := 26) ?hr ?_; (case hd => rfl); (case hg => rfl); (case hr => first | (go_simp; done) | (go_simp; rfl)); intro ni hg w7 hbox hb; have bT := ah.mk (aI (by repeat (first | (with_reducible first | exact HB.out | apply au | apply af | apply ak) | exact HB.out)) hb); have dD := ah.mk (hbox); have dQ := ah.mk ((by rw [hg]; exact (aW (by repeat (first | (with_reducible first | exact HB.out | apply au | apply af | apply ak) | exact HB.out))) : w.heap.size ≤ ni)); have eH := ah.mk ((by rw [hg]; exact (aW (by repeat (first | (with_reducible first | exact HB.out | apply au | apply af | apply ak) | exact HB.out))) : w.heap.size ≤ ni)); clear HB; have HB := bT; have iK := dD; have ada := dQ; have wW := eH; clear bT dD dQ eH; clear hb hbox hg) | ((with_reducible refine dY (N := 3) rfl ?_); refine dH ?hg (N := 3) ?hd (cs := #[.int .i64 dS, .int .i64 dZ, .slice gY dI.length g_]) (t := 26) ?hr ?_; (case hd => rfl); (case hg => rfl); (case hr => first | (go_simp; done) | (go_simp; rfl)); intro qI hg w8 hbox hb; have bT := ah.mk (bg (g := ni) (o := .cells #[.int .i64 aQ, .int .i64 a_, .slice cO aY.length cu] 26 (0, 0)) (by (with_reducible repeat (first | refine ay ?_ _ | refine aC ?_ | refine az ?_ _)); exact iK.out) hb); have dD := ah.mk (aI (by repeat (first | (with_reducible first | exact HB.out | apply au | apply af | apply ak | refine aG ?_ wW.out) | exact HB.out)) hb); have dQ := ah.mk (hbox); have eH := ah.mk ((by rw [hg]; exact (aW (by repeat (first | (with_reducible first | exact HB.out | apply au | apply af | apply ak | refine aG ?_ wW.out) | exact HB.out))) : w.heap.size ≤ qI)); have iw := ah.mk ((by rw [hg]; exact (aW (by repeat (first | (with_reducible first | exact HB.out | apply au | apply af | apply ak | refine aG ?_ wW.out) | exact HB.out))) : w.heap.size ≤ qI)); have iQ := ah.mk ((by rw [hg]; exact Nat.ne_of_lt (dP (g := ni) (o := .cells #[.int .i64 aQ, .int .i64 a_, .slice cO aY.length cu] 26 (0, 0)) (by (with_reducible repeat (first | refine ay ?_ _ | refine aC ?_ | refine az ?_ _)); exact iK.out)) : ni ≠ qI)); have jk := ah.mk ((by rw [hg]; exact Nat.ne_of_gt (dP (g := ni) (o := .cells #[.int .i64 aQ, .int .i64 a_, .slice cO aY.length cu] 26 (0, 0)) (by (with_reducible repeat (first | refine ay ?_ _ | refine aC ?_ | refine az ?_ _)); exact iK.out)) : qI ≠ ni)); clear iK; clear HB; have iK := bT; have HB := dD; have jr := dQ; have ac_ := eH; have GI := iw; have Sj := iQ; have Si := jk; clear bT dD dQ eH iw iQ jk; clear hb hbox hg))
   have bT := ah.mk (aC iK.out)
   have dD := ah.mk (aC jr.out)
   have dQ := ah.mk (ak HB.out)
   clear iK
   clear jr
   clear HB
   have iK := bT
   have jr := dD
   have HB := dQ
   clear bT dD dQ
   refine oV (n := 13) (S := fun w' => w'.cell? ⟨ni, 0, none⟩ = some (.int .i64 aQ) ∧ w'.cell? ⟨ni, 1, none⟩ = some (.int .i64 a_) ∧ w'.cell? ⟨ni, 2, none⟩ = some (.slice cO aY.length cu) ∧ w'.cell? ⟨qI, 0, none⟩ = some (.int .i64 dS) ∧ w'.cell? ⟨qI, 1, none⟩ = some (.int .i64 dZ) ∧ w'.cell? ⟨qI, 2, none⟩ = some (.slice gY dI.length g_)) (ds := []) #[false, false, false, false, false, false, false, false, false, false, false, false, false] (by kernel_rfl) rfl rfl ⟨(aj iK.out 0).trans rfl, (aj iK.out 1).trans rfl, (aj iK.out 2).trans rfl, (aj jr.out 0).trans rfl, (aj jr.out 1).trans rfl, (aj jr.out 2).trans rfl⟩ (fun hHeld => ?_); refine jJ gX.Va gX.Qq (fun dF pI => ?_)
   generalize w8.drew = w9 at iK jr HB hHeld ⊢
   refine iP (i := 0) (N := some 5) (v := ?_) (a' := ?_) #[true, false, false, false, false, false, false, false, false, false, false, false, false] rfl rfl (eF dF.out pI.out (by kernel_rfl)) (fun _ _ _ h => h) (Or.inl ⟨by rfl, ?_⟩) hHeld ?_ ?_
   rotate_left
   · rintro w' ⟨s0, s1, s2, s3, s4, s5⟩
     go_simp
     with_reducible rfl
   rotate_left
   · simp only [Act.put, List.setIfInBounds_toArray, List.set_cons_zero, List.set_cons_succ, aJ, aK]
     rfl
   refine iP (i := 2) (N := some 7) (v := ?_) (a' := ?_) #[true, false, true, false, false, false, false, false, false, false, false, false, false] rfl rfl (eF dF.out pI.out (by kernel_rfl)) (fun _ _ _ h => h) (Or.inl ⟨by rfl, ?_⟩) hHeld ?_ ?_
   rotate_left
   · rintro w' ⟨s0, s1, s2, s3, s4, s5⟩
     go_simp
     with_reducible rfl
   rotate_left
   · simp only [Act.put, List.setIfInBounds_toArray, List.set_cons_zero, List.set_cons_succ, aJ, aK]
     rfl
   refine nC (i := 1) (N := some 6) #[true, true, true, false, false, false, false, false, false, false, false, false, false] rfl rfl (iF dF.out (by kernel_rfl)) (by decide) (fun K hK => ?_)
   refine kU Try.func77 (by kernel_rfl) rfl #[.agg #[.int .i64 aQ, .int .i64 a_, .slice cO aY.length cu]] (by rfl) rfl rfl (by (try simp only [List.map_toArray, List.map_cons, List.map_nil]); first | done | rfl | (simp only [List.length_drop, List.length_take]; rfl)) ?_
   with_reducible refine (sO.calls aQ a_ _ _ aY t108 t109 _ ?eY ?eX A3.out).mono ?_
   (case eY => repeat (first | exact (Kd.fB kC.out HB.out) | (with_reducible refine Kd.fE ?_ _) | (with_reducible refine Kd.fD ?_ _) | (with_reducible refine Kd.gm ?_)))
   (case eX => exact lM.out)
   rintro e w10 ⟨rfl, hb⟩
   refine ⟨_, rfl, ?_⟩
   have bT := ah.mk (bg (g := ni) (o := .cells #[.int .i64 aQ, .int .i64 a_, .slice cO aY.length cu] 26 (0, 0)) (by (with_reducible repeat (first | refine ay ?_ _ | refine aC ?_ | refine az ?_ _)); exact iK.out) hb)
   have dD := ah.mk (bg (g := qI) (o := .cells #[.int .i64 dS, .int .i64 dZ, .slice gY dI.length g_] 26 (0, 0)) (by (with_reducible repeat (first | refine ay ?_ _ | refine aC ?_ | refine az ?_ _)); exact jr.out) hb)
   have dQ := ah.mk (aI (by repeat (first | (with_reducible first | exact HB.out | apply au | apply af | apply ak | refine aG ?_ wW.out | refine aG ?_ GI.out) | exact HB.out)) hb)
   clear iK
   clear jr
   clear HB
   have iK := bT
   have jr := dD
   have HB := dQ
   clear bT dD dQ
   (try clear hb)
   (try clear hb2)
   (try clear hk)
   (try clear hi)
   refine hK.out _ _ ⟨(aj iK.out 0).trans rfl, (aj iK.out 1).trans rfl, (aj iK.out 2).trans rfl, (aj jr.out 0).trans rfl, (aj jr.out 1).trans rfl, (aj jr.out 2).trans rfl⟩ (fun hHeld => ?_)
   clear hK K
   refine iV (a' := ?_) ?_ ?_
   rotate_left
   · show Act.put _ (some 6) _ = _
     simp only [Act.put, List.setIfInBounds_toArray, List.set_cons_zero, List.set_cons_succ, aJ, aK]
     rfl
   refine nC (i := 3) (N := some 8) #[true, true, true, true, false, false, false, false, false, false, false, false, false] rfl rfl (iF dF.out (by kernel_rfl)) (by decide) (fun K hK => ?_)
   refine kU Try.func77 (by kernel_rfl) rfl #[.agg #[.int .i64 dS, .int .i64 dZ, .slice gY dI.length g_]] (by rfl) rfl rfl (by (try simp only [List.map_toArray, List.map_cons, List.map_nil]); first | done | rfl | (simp only [List.length_drop, List.length_take]; rfl)) ?_
   with_reducible refine (sO.calls dS dZ _ _ dI t110 t111 _ ?eY ?eX A4.out).mono ?_
   (case eY => repeat (first | exact (Kd.fB tV.out HB.out) | (with_reducible refine Kd.fE ?_ _) | (with_reducible refine Kd.fD ?_ _) | (with_reducible refine Kd.gm ?_)))
   (case eX => exact vW.out)
   rintro e wY ⟨rfl, hb⟩
   refine ⟨_, rfl, ?_⟩
   have bT := ah.mk (bg (g := ni) (o := .cells #[.int .i64 aQ, .int .i64 a_, .slice cO aY.length cu] 26 (0, 0)) (by (with_reducible repeat (first | refine ay ?_ _ | refine aC ?_ | refine az ?_ _)); exact iK.out) hb)
   have dD := ah.mk (bg (g := qI) (o := .cells #[.int .i64 dS, .int .i64 dZ, .slice gY dI.length g_] 26 (0, 0)) (by (with_reducible repeat (first | refine ay ?_ _ | refine aC ?_ | refine az ?_ _)); exact jr.out) hb)
   have dQ := ah.mk (aI (by repeat (first | (with_reducible first | exact HB.out | apply au | apply af | apply ak | refine aG ?_ wW.out | refine aG ?_ GI.out) | exact HB.out)) hb)
   clear iK
   clear jr
   clear HB
   have iK := bT
   have jr := dD
   have HB := dQ
   clear bT dD dQ
   (try clear hb)
   (try clear hb2)
   (try clear hk)
   (try clear hi)
   refine hK.out _ _ ⟨(aj iK.out 0).trans rfl, (aj iK.out 1).trans rfl, (aj iK.out 2).trans rfl, (aj jr.out 0).trans rfl, (aj jr.out 1).trans rfl, (aj jr.out 2).trans rfl⟩ (fun hHeld => ?_)
   clear hK K
   refine iV (a' := ?_) ?_ ?_
   rotate_left
   · show Act.put _ (some 8) _ = _
     simp only [Act.put, List.setIfInBounds_toArray, List.set_cons_zero, List.set_cons_succ, aJ, aK]
     rfl
   refine bf (i := 4) (N := some 9) (v := ?_) (a' := ?_) #[true, true, true, true, true, false, false, false, false, false, false, false, false] rfl rfl (aN dF.out (by kernel_rfl)) (fun _ _ _ h => h) (Or.inl ⟨by rfl, ?_⟩) ?_ ?_
   rotate_left
   · intro w'
     go_simp
     with_reducible rfl
   rotate_left
   · simp only [Act.put, List.setIfInBounds_toArray, List.set_cons_zero, List.set_cons_succ, aJ, aK]
     rfl
   refine bf (i := 5) (N := some 10) (v := ?_) (a' := ?_) #[true, true, true, true, true, true, false, false, false, false, false, false, false] rfl rfl (aN dF.out (by kernel_rfl)) (fun _ _ _ h => h) (Or.inl ⟨by rfl, ?_⟩) ?_ ?_
   rotate_left
   · intro w'
     go_simp
     with_reducible rfl
   rotate_left
   · simp only [Act.put, List.setIfInBounds_toArray, List.set_cons_zero, List.set_cons_succ, aJ, aK]
     rfl
   refine bf (i := 6) (N := some 11) (v := ?_) (a' := ?_) #[true, true, true, true, true, true, true, false, false, false, false, false, false] rfl rfl (aN dF.out (by kernel_rfl)) (fun _ _ _ h => h) (Or.inl ⟨by rfl, ?_⟩) ?_ ?_
   rotate_left
   · intro w'
     go_simp
     with_reducible rfl
   rotate_left
   · simp only [Act.put, List.setIfInBounds_toArray, List.set_cons_zero, List.set_cons_succ, aJ, aK]
     rfl
   refine bf (i := 8) (N := some 13) (v := ?_) (a' := ?_) #[true, true, true, true, true, true, true, false, true, false, false, false, false] rfl rfl (aN dF.out (by kernel_rfl)) (fun _ _ _ h => h) (Or.inl ⟨by rfl, ?_⟩) ?_ ?_
   rotate_left
   · intro w'
     go_simp
     with_reducible rfl
   rotate_left
   · simp only [Act.put, List.setIfInBounds_toArray, List.set_cons_zero, List.set_cons_succ, aJ, aK]
     rfl
   refine iP (i := 7) (N := some 12) (v := ?_) (a' := ?_) #[true, true, true, true, true, true, true, true, true, false, false, false, false] rfl rfl (eF dF.out pI.out (by kernel_rfl)) (fun _ _ _ h => h) (Or.inl ⟨by rfl, ?_⟩) hHeld ?_ ?_
   rotate_left
   · rintro w' ⟨s0, s1, s2, s3, s4, s5⟩
     go_simp
     with_reducible rfl
   rotate_left
   · simp only [Act.put, List.setIfInBounds_toArray, List.set_cons_zero, List.set_cons_succ, aJ, aK]
     rfl
   refine iP (i := 9) (N := some 14) (v := ?_) (a' := ?_) #[true, true, true, true, true, true, true, true, true, true, false, false, false] rfl rfl (eF dF.out pI.out (by kernel_rfl)) (fun _ _ _ h => h) (Or.inl ⟨by rfl, ?_⟩) hHeld ?_ ?_
   rotate_left
   · rintro w' ⟨s0, s1, s2, s3, s4, s5⟩
     go_simp
     with_reducible rfl
   rotate_left
   · simp only [Act.put, List.setIfInBounds_toArray, List.set_cons_zero, List.set_cons_succ, aJ, aK]
     rfl
   refine nC (i := 10) (N := some 15) #[true, true, true, true, true, true, true, true, true, true, true, false, false] rfl rfl (iF dF.out (by kernel_rfl)) (by decide) (fun K hK => ?_)
   refine kU Try.func78 (by kernel_rfl) rfl #[.slice cO aY.length cu, .slice gY dI.length g_] (by rfl) rfl rfl (by (try simp only [List.map_toArray, List.map_cons, List.map_nil]); first | done | rfl | (simp only [List.length_drop, List.length_take]; rfl)) ?_
   with_reducible refine (jo.calls k _ _ aY _ _ dI t112 _ ?eY ?eX ?lZ ?nU A6.out).mono ?_
   (case eY => repeat (first | exact (Kd.fB kC.out HB.out) | (with_reducible refine Kd.fE ?_ _) | (with_reducible refine Kd.fD ?_ _) | (with_reducible refine Kd.gm ?_)))
   (case eX => exact lM.out)
   (case lZ => repeat (first | exact (Kd.fB tV.out HB.out) | (with_reducible refine Kd.fE ?_ _) | (with_reducible refine Kd.fD ?_ _) | (with_reducible refine Kd.gm ?_)))
   (case nU => exact vW.out)
   rintro e w' ⟨rfl, ⟨nd, rfl⟩⟩
   refine ⟨_, rfl, ?_⟩
   refine hK.out _ _ ⟨(aj iK.out 0).trans rfl, (aj iK.out 1).trans rfl, (aj iK.out 2).trans rfl, (aj jr.out 0).trans rfl, (aj jr.out 1).trans rfl, (aj jr.out 2).trans rfl⟩ (fun hHeld => ?_)
   clear hK K
   refine iV (a' := ?_) ?_ ?_
   rotate_left
   · show Act.put _ (some 15) _ = _
     simp only [Act.put, List.setIfInBounds_toArray, List.set_cons_zero, List.set_cons_succ, aJ, aK]
     rfl
   refine bf (i := 11) (N := some 16) (v := ?_) (a' := ?_) #[true, true, true, true, true, true, true, true, true, true, true, true, false] rfl rfl (aN dF.out (by kernel_rfl)) (fun _ _ _ h => h) (Or.inl ⟨by rfl, ?_⟩) ?_ ?_
   rotate_left
   · intro w'
     go_simp
     with_reducible rfl
   rotate_left
   · simp only [Act.put, List.setIfInBounds_toArray, List.set_cons_zero, List.set_cons_succ, aJ, aK]
     rfl
   refine bf (i := 12) (N := some 4) (v := ?_) (a' := ?_) #[true, true, true, true, true, true, true, true, true, true, true, true, true] rfl rfl (aN dF.out (by kernel_rfl)) (fun _ _ _ h => h) (Or.inl ⟨by rfl, ?_⟩) ?_ ?_
   rotate_left
   · intro w'
     go_simp
     with_reducible rfl
   rotate_left
   · simp only [Act.put, List.setIfInBounds_toArray, List.set_cons_zero, List.set_cons_succ, aJ, aK]
     rfl
   refine tJ (lW dF.out (by kernel_rfl)) ?_
   try go_wp2
   go_ret
   exact ⟨by first | rfl | (simp [aU, aT] <;> rfl) | (simp [*, aU, aT] <;> rfl), by repeat (first | (with_reducible first | exact HB.out | apply au | apply af | apply ak | refine aG ?_ wW.out | refine aG ?_ GI.out) | exact HB.out)⟩
 · rw [if_neg c5] at H
   have uT : (t108 == t110 && (t109 == t111)) = false := by simpa using c5
   (try (have ZA : decide (t108 = t110 && (t109 == t111)) = false := by simpa using c5))
   (try (have ai6 : (t108 == t110 && (t109 == t111)) = false := by simpa using c5))
   (try (have aoq : ¬ (t108 = t110 && (t109 == t111)) := by simpa using c5))
   clear c5
   obtain rfl := Option.some.inj H
   go_enter Try.func40, Try.ntmps40
   try go_wp2_with (first | ((with_reducible refine dY (N := 2) rfl ?_); refine dH ?hg (N := 2) ?hd (cs := #[.int .i64 aQ, .int .i64 a_, .slice cO aY.length cu]) (t := 26) ?hr ?_; (case hd => rfl); (case hg => rfl); (case hr => first | (go_simp; done) | (go_simp; rfl)); intro ni hg w12 hbox hb; have bT := ah.mk (aI (by repeat (first | (with_reducible first | exact HB.out | apply au | apply af | apply ak) | exact HB.out)) hb); have dD := ah.mk (hbox); have dQ := ah.mk ((by rw [hg]; exact (aW (by repeat (first | (with_reducible first | exact HB.out | apply au | apply af | apply ak) | exact HB.out))) : w.heap.size ≤ ni)); have eH := ah.mk ((by rw [hg]; exact (aW (by repeat (first | (with_reducible first | exact HB.out | apply au | apply af | apply ak) | exact HB.out))) : w.heap.size ≤ ni)); clear HB; have HB := bT; have iK := dD; have ada := dQ; have wW := eH; clear bT dD dQ eH; clear hb hbox hg) | ((with_reducible refine dY (N := 3) rfl ?_); refine dH ?hg (N := 3) ?hd (cs := #[.int .i64 dS, .int .i64 dZ, .slice gY dI.length g_]) (t := 26) ?hr ?_; (case hd => rfl); (case hg => rfl); (case hr => first | (go_simp; done) | (go_simp; rfl)); intro qI hg SC hbox hb; have bT := ah.mk (bg (g := ni) (o := .cells #[.int .i64 aQ, .int .i64 a_, .slice cO aY.length cu] 26 (0, 0)) (by (with_reducible repeat (first | refine ay ?_ _ | refine aC ?_ | refine az ?_ _)); exact iK.out) hb); have dD := ah.mk (aI (by repeat (first | (with_reducible first | exact HB.out | apply au | apply af | apply ak | refine aG ?_ wW.out) | exact HB.out)) hb); have dQ := ah.mk (hbox); have eH := ah.mk ((by rw [hg]; exact (aW (by repeat (first | (with_reducible first | exact HB.out | apply au | apply af | apply ak | refine aG ?_ wW.out) | exact HB.out))) : w.heap.size ≤ qI)); have iw := ah.mk ((by rw [hg]; exact (aW (by repeat (first | (with_reducible first | exact HB.out | apply au | apply af | apply ak | refine aG ?_ wW.out) | exact HB.out))) : w.heap.size ≤ qI)); have iQ := ah.mk ((by rw [hg]; exact Nat.ne_of_lt (dP (g := ni) (o := .cells #[.int .i64 aQ, .int .i64 a_, .slice cO aY.length cu] 26 (0, 0)) (by (with_reducible repeat (first | refine ay ?_ _ | refine aC ?_ | refine az ?_ _)); exact iK.out)) : ni ≠ qI)); have jk := ah.mk ((by rw [hg]; exact Nat.ne_of_gt (dP (g := ni) (o := .cells #[.int .i64 aQ, .int .i64 a_, .slice cO aY.length cu] 26 (0, 0)) (by (with_reducible repeat (first | refine ay ?_ _ | refine aC ?_ | refine az ?_ _)); exact iK.out)) : qI ≠ ni)); clear iK; clear HB; have iK := bT; have HB := dD; have jr := dQ; have ac_ := eH; have GI := iw; have Sj := iQ; have Si := jk; clear bT dD dQ eH iw iQ jk; clear hb hbox hg))
   have bT := ah.mk (aC iK.out)
   have dD := ah.mk (aC jr.out)
   have dQ := ah.mk (ak HB.out)
   clear iK
   clear jr
   clear HB
   have iK := bT
   have jr := dD
   have HB := dQ
   clear bT dD dQ
   refine oV (n := 13) (S := fun w' => w'.cell? ⟨ni, 0, none⟩ = some (.int .i64 aQ) ∧ w'.cell? ⟨ni, 1, none⟩ = some (.int .i64 a_) ∧ w'.cell? ⟨ni, 2, none⟩ = some (.slice cO aY.length cu) ∧ w'.cell? ⟨qI, 0, none⟩ = some (.int .i64 dS) ∧ w'.cell? ⟨qI, 1, none⟩ = some (.int .i64 dZ) ∧ w'.cell? ⟨qI, 2, none⟩ = some (.slice gY dI.length g_)) (ds := []) #[false, false, false, false, false, false, false, false, false, false, false, false, false] (by kernel_rfl) rfl rfl ⟨(aj iK.out 0).trans rfl, (aj iK.out 1).trans rfl, (aj iK.out 2).trans rfl, (aj jr.out 0).trans rfl, (aj jr.out 1).trans rfl, (aj jr.out 2).trans rfl⟩ (fun hHeld => ?_); refine jJ gX.Va gX.Qq (fun dF pI => ?_)
   generalize SC.drew = U6 at iK jr HB hHeld ⊢
   refine iP (i := 0) (N := some 5) (v := ?_) (a' := ?_) #[true, false, false, false, false, false, false, false, false, false, false, false, false] rfl rfl (eF dF.out pI.out (by kernel_rfl)) (fun _ _ _ h => h) (Or.inl ⟨by rfl, ?_⟩) hHeld ?_ ?_
   rotate_left
   · rintro w' ⟨s0, s1, s2, s3, s4, s5⟩
     go_simp
     with_reducible rfl
   rotate_left
   · simp only [Act.put, List.setIfInBounds_toArray, List.set_cons_zero, List.set_cons_succ, aJ, aK]
     rfl
   refine iP (i := 2) (N := some 7) (v := ?_) (a' := ?_) #[true, false, true, false, false, false, false, false, false, false, false, false, false] rfl rfl (eF dF.out pI.out (by kernel_rfl)) (fun _ _ _ h => h) (Or.inl ⟨by rfl, ?_⟩) hHeld ?_ ?_
   rotate_left
   · rintro w' ⟨s0, s1, s2, s3, s4, s5⟩
     go_simp
     with_reducible rfl
   rotate_left
   · simp only [Act.put, List.setIfInBounds_toArray, List.set_cons_zero, List.set_cons_succ, aJ, aK]
     rfl
   refine nC (i := 1) (N := some 6) #[true, true, true, false, false, false, false, false, false, false, false, false, false] rfl rfl (iF dF.out (by kernel_rfl)) (by decide) (fun K hK => ?_)
   refine kU Try.func77 (by kernel_rfl) rfl #[.agg #[.int .i64 aQ, .int .i64 a_, .slice cO aY.length cu]] (by rfl) rfl rfl (by (try simp only [List.map_toArray, List.map_cons, List.map_nil]); first | done | rfl | (simp only [List.length_drop, List.length_take]; rfl)) ?_
   with_reducible refine (sO.calls aQ a_ _ _ aY t108 t109 _ ?eY ?eX A3.out).mono ?_
   (case eY => repeat (first | exact (Kd.fB kC.out HB.out) | (with_reducible refine Kd.fE ?_ _) | (with_reducible refine Kd.fD ?_ _) | (with_reducible refine Kd.gm ?_)))
   (case eX => exact lM.out)
   rintro e w15 ⟨rfl, hb⟩
   refine ⟨_, rfl, ?_⟩
   have bT := ah.mk (bg (g := ni) (o := .cells #[.int .i64 aQ, .int .i64 a_, .slice cO aY.length cu] 26 (0, 0)) (by (with_reducible repeat (first | refine ay ?_ _ | refine aC ?_ | refine az ?_ _)); exact iK.out) hb)
   have dD := ah.mk (bg (g := qI) (o := .cells #[.int .i64 dS, .int .i64 dZ, .slice gY dI.length g_] 26 (0, 0)) (by (with_reducible repeat (first | refine ay ?_ _ | refine aC ?_ | refine az ?_ _)); exact jr.out) hb)
   have dQ := ah.mk (aI (by repeat (first | (with_reducible first | exact HB.out | apply au | apply af | apply ak | refine aG ?_ wW.out | refine aG ?_ GI.out) | exact HB.out)) hb)
   clear iK
   clear jr
   clear HB
   have iK := bT
   have jr := dD
   have HB := dQ
   clear bT dD dQ
   (try clear hb)
   (try clear hb2)
   (try clear hk)
   (try clear hi)
   refine hK.out _ _ ⟨(aj iK.out 0).trans rfl, (aj iK.out 1).trans rfl, (aj iK.out 2).trans rfl, (aj jr.out 0).trans rfl, (aj jr.out 1).trans rfl, (aj jr.out 2).trans rfl⟩ (fun hHeld => ?_)
   clear hK K
   refine iV (a' := ?_) ?_ ?_
   rotate_left
   · show Act.put _ (some 6) _ = _
     simp only [Act.put, List.setIfInBounds_toArray, List.set_cons_zero, List.set_cons_succ, aJ, aK]
     rfl
   refine nC (i := 3) (N := some 8) #[true, true, true, true, false, false, false, false, false, false, false, false, false] rfl rfl (iF dF.out (by kernel_rfl)) (by decide) (fun K hK => ?_)
   refine kU Try.func77 (by kernel_rfl) rfl #[.agg #[.int .i64 dS, .int .i64 dZ, .slice gY dI.length g_]] (by rfl) rfl rfl (by (try simp only [List.map_toArray, List.map_cons, List.map_nil]); first | done | rfl | (simp only [List.length_drop, List.length_take]; rfl)) ?_
   with_reducible refine (sO.calls dS dZ _ _ dI t110 t111 _ ?eY ?eX A4.out).mono ?_
   (case eY => repeat (first | exact (Kd.fB tV.out HB.out) | (with_reducible refine Kd.fE ?_ _) | (with_reducible refine Kd.fD ?_ _) | (with_reducible refine Kd.gm ?_)))
   (case eX => exact vW.out)
   rintro e w16 ⟨rfl, hb⟩
   refine ⟨_, rfl, ?_⟩
   have bT := ah.mk (bg (g := ni) (o := .cells #[.int .i64 aQ, .int .i64 a_, .slice cO aY.length cu] 26 (0, 0)) (by (with_reducible repeat (first | refine ay ?_ _ | refine aC ?_ | refine az ?_ _)); exact iK.out) hb)
   have dD := ah.mk (bg (g := qI) (o := .cells #[.int .i64 dS, .int .i64 dZ, .slice gY dI.length g_] 26 (0, 0)) (by (with_reducible repeat (first | refine ay ?_ _ | refine aC ?_ | refine az ?_ _)); exact jr.out) hb)
   have dQ := ah.mk (aI (by repeat (first | (with_reducible first | exact HB.out | apply au | apply af | apply ak | refine aG ?_ wW.out | refine aG ?_ GI.out) | exact HB.out)) hb)
   clear iK
   clear jr
   clear HB
   have iK := bT
   have jr := dD
   have HB := dQ
   clear bT dD dQ
   (try clear hb)
   (try clear hb2)
   (try clear hk)
   (try clear hi)
   refine hK.out _ _ ⟨(aj iK.out 0).trans rfl, (aj iK.out 1).trans rfl, (aj iK.out 2).trans rfl, (aj jr.out 0).trans rfl, (aj jr.out 1).trans rfl, (aj jr.out 2).trans rfl⟩ (fun hHeld => ?_)
   clear hK K
   refine iV (a' := ?_) ?_ ?_
   rotate_left
   · show Act.put _ (some 8) _ = _
     simp only [Act.put, List.setIfInBounds_toArray, List.set_cons_zero, List.set_cons_succ, aJ, aK]
     rfl
   refine bf (i := 4) (N := some 9) (v := ?_) (a' := ?_) #[true, true, true, true, true, false, false, false, false, false, false, false, false] rfl rfl (aN dF.out (by kernel_rfl)) (fun _ _ _ h => h) (Or.inl ⟨by rfl, ?_⟩) ?_ ?_
   rotate_left
   · intro w'
     go_simp
     with_reducible rfl
   rotate_left
   · simp only [Act.put, List.setIfInBounds_toArray, List.set_cons_zero, List.set_cons_succ, aJ, aK]
     rfl
   refine bf (i := 5) (N := some 10) (v := ?_) (a' := ?_) #[true, true, true, true, true, true, false, false, false, false, false, false, false] rfl rfl (aN dF.out (by kernel_rfl)) (fun _ _ _ h => h) (Or.inl ⟨by rfl, ?_⟩) ?_ ?_
   rotate_left
   · intro w'
     go_simp
     with_reducible rfl
   rotate_left
   · simp only [Act.put, List.setIfInBounds_toArray, List.set_cons_zero, List.set_cons_succ, aJ, aK]
     rfl
   refine bf (i := 6) (N := some 11) (v := undef) (a' := ?_) #[true, true, true, true, true, true, true, false, false, false, false, false, false] rfl rfl (aN dF.out (by kernel_rfl)) (fun _ _ _ h => h) (Or.inr ⟨by rfl, rfl⟩) ?_ ?_
   rotate_left
   · simp only [Act.put, List.setIfInBounds_toArray, List.set_cons_zero, List.set_cons_succ, aJ, aK]
     rfl
   refine bf (i := 7) (N := some 12) (v := undef) (a' := ?_) #[true, true, true, true, true, true, true, true, false, false, false, false, false] rfl rfl (aN dF.out (by kernel_rfl)) (fun _ _ _ h => h) (Or.inr ⟨by rfl, rfl⟩) ?_ ?_
   rotate_left
   · simp only [Act.put, List.setIfInBounds_toArray, List.set_cons_zero, List.set_cons_succ, aJ, aK]
     rfl
   refine bf (i := 8) (N := some 13) (v := undef) (a' := ?_) #[true, true, true, true, true, true, true, true, true, false, false, false, false] rfl rfl (aN dF.out (by kernel_rfl)) (fun _ _ _ h => h) (Or.inr ⟨by rfl, rfl⟩) ?_ ?_
   rotate_left
   · simp only [Act.put, List.setIfInBounds_toArray, List.set_cons_zero, List.set_cons_succ, aJ, aK]
     rfl
   refine bf (i := 9) (N := some 14) (v := undef) (a' := ?_) #[true, true, true, true, true, true, true, true, true, true, false, false, false] rfl rfl (aN dF.out (by kernel_rfl)) (fun _ _ _ h => h) (Or.inr ⟨by rfl, rfl⟩) ?_ ?_
   rotate_left
   · simp only [Act.put, List.setIfInBounds_toArray, List.set_cons_zero, List.set_cons_succ, aJ, aK]
     rfl
   refine bf (i := 10) (N := some 15) (v := undef) (a' := ?_) #[true, true, true, true, true, true, true, true, true, true, true, false, false] rfl rfl (aN dF.out (by kernel_rfl)) (fun _ _ _ h => h) (Or.inr ⟨by rfl, rfl⟩) ?_ ?_
   rotate_left
   · simp only [Act.put, List.setIfInBounds_toArray, List.set_cons_zero, List.set_cons_succ, aJ, aK]
     rfl
   refine bf (i := 11) (N := some 16) (v := ?_) (a' := ?_) #[true, true, true, true, true, true, true, true, true, true, true, true, false] rfl rfl (aN dF.out (by kernel_rfl)) (fun _ _ _ h => h) (Or.inl ⟨by rfl, ?_⟩) ?_ ?_
   rotate_left
   · intro w'
     go_simp
     with_reducible rfl
   rotate_left
   · simp only [Act.put, List.setIfInBounds_toArray, List.set_cons_zero, List.set_cons_succ, aJ, aK]
     rfl
   refine bf (i := 12) (N := some 4) (v := ?_) (a' := ?_) #[true, true, true, true, true, true, true, true, true, true, true, true, true] rfl rfl (aN dF.out (by kernel_rfl)) (fun _ _ _ h => h) (Or.inl ⟨by rfl, ?_⟩) ?_ ?_
   rotate_left
   · intro w'
     go_simp
     with_reducible rfl
   rotate_left
   · simp only [Act.put, List.setIfInBounds_toArray, List.set_cons_zero, List.set_cons_succ, aJ, aK]
     rfl
   refine tJ (lW dF.out (by kernel_rfl)) ?_
   try go_wp2
   go_ret
   exact ⟨by first | rfl | (simp [aU, aT] <;> rfl) | (simp [*, aU, aT] <;> rfl), by repeat (first | (with_reducible first | exact HB.out | apply au | apply af | apply ak | refine aG ?_ wW.out | refine aG ?_ GI.out) | exact HB.out)⟩
def jW.j0 : Nat → Int → Bool → Option (Int)
 | 0, _, _ => none
 | k + 1, x2, x7 => if x7 = true then (some 9) else (if x2 ≤ 0 then (some 1) else (some 0))
def jW.f (k : Nat) (aQ : Int) (a_ : Int) (aY : List Int) (dw : Int) (dB : Int) (bV : List Int) (dS : Int) (dZ : Int) (dI : List Int) (a2 : Int) : Option (Int) := if dS = 1 then (jW.j0 k a2 (dZ != aQ)) else (jW.j0 k a2 true)
theorem jW.calls (k : Nat) (aQ : Int) (a_ : Int) (cO : Option Addr) (cu : Nat) (aY : List Int) (dw : Int) (dB : Int) (gp : Option Addr) (fZ : Nat) (bV : List Int) (dS : Int) (dZ : Int) (gY : Option Addr) (g_ : Nat) (dI : List Int) (a2 : Int) (r : Int) (w : World) (jl : Kd.C (Kd.int .i64) w cO aY.length aY) (jD : aY.length ≤ cu) (vw : Kd.C (Kd.int .i64) w gp bV.length bV) (vK : bV.length ≤ fZ) (oM : Kd.C (Kd.int .i64) w gY dI.length dI) (o9 : dI.length ≤ g_) (h : jW.f k aQ a_ aY dw dB bV dS dZ dI a2 = some r) :
 Calls Try.prog 32 #[.agg #[.int .i64 aQ, .int .i64 a_, .slice cO aY.length cu, .int .i64 dw, .int .i64 dB, .slice gp bV.length fZ], .agg #[.int .i64 dS, .int .i64 dZ, .slice gY dI.length g_], .int .i64 a2] w fun e w' => e = .returned (.int .i64 r) ∧ Below w.heap.size w w' := by
 have Q7 := Try.underlying28
 have yz := Try.underlying26
 have kC := ah.mk jl
 have lM := ah.mk jD
 clear jl jD
 have nO := ah.mk vw
 have t_ := ah.mk vK
 clear vw vK
 have tV := ah.mk oM
 have vW := ah.mk o9
 clear oM o9
 have HB := ah.mk (Below.refl w.heap.size w)
 have H : (if dS = 1 then (jW.j0 k a2 (dZ != aQ)) else (jW.j0 k a2 true)) = some r := h
 clear h
 have Oy := ah.mk H
 clear H
 go_enter Try.func32, Try.ntmps32
 go_upto_region 1 with (first | ((with_reducible refine dY (N := 3) rfl ?_); refine dH ?hg (N := 3) ?hd (cs := #[.int .i64 aQ, .int .i64 a_, .slice cO aY.length cu, .int .i64 dw, .int .i64 dB, .slice gp bV.length fZ]) (t := 28) ?hr ?_; (case hd => rfl); (case hg => rfl); (case hr => first | (go_simp; done) | (go_simp; rfl)); intro vM hg w5 hbox hb; have bT := ah.mk (aI (by repeat (first | (with_reducible first | exact HB.out | apply au | apply af | apply ak) | exact HB.out)) hb); have dD := ah.mk (hbox); have dQ := ah.mk ((by rw [hg]; exact (aW (by repeat (first | (with_reducible first | exact HB.out | apply au | apply af | apply ak) | exact HB.out))) : w.heap.size ≤ vM)); have eH := ah.mk ((by rw [hg]; exact (aW (by repeat (first | (with_reducible first | exact HB.out | apply au | apply af | apply ak) | exact HB.out))) : w.heap.size ≤ vM)); clear HB; have HB := bT; have qm := dD; have amx := dQ; have D_ := eH; clear bT dD dQ eH; clear hb hbox hg) | ((with_reducible refine dY (N := 4) rfl ?_); refine dH ?hg (N := 4) ?hd (cs := #[.int .i64 dS, .int .i64 dZ, .slice gY dI.length g_]) (t := 26) ?hr ?_; (case hd => rfl); (case hg => rfl); (case hr => first | (go_simp; done) | (go_simp; rfl)); intro bW hg w6 hbox hb; have bT := ah.mk (bg (g := vM) (o := .cells #[.int .i64 aQ, .int .i64 a_, .slice cO aY.length cu, .int .i64 dw, .int .i64 dB, .slice gp bV.length fZ] 28 (0, 0)) (by (with_reducible repeat (first | refine ay ?_ _ | refine aC ?_ | refine az ?_ _)); exact qm.out) hb); have dD := ah.mk (aI (by repeat (first | (with_reducible first | exact HB.out | apply au | apply af | apply ak | refine aG ?_ D_.out) | exact HB.out)) hb); have dQ := ah.mk (hbox); have eH := ah.mk ((by rw [hg]; exact (aW (by repeat (first | (with_reducible first | exact HB.out | apply au | apply af | apply ak | refine aG ?_ D_.out) | exact HB.out))) : w.heap.size ≤ bW)); have iw := ah.mk ((by rw [hg]; exact (aW (by repeat (first | (with_reducible first | exact HB.out | apply au | apply af | apply ak | refine aG ?_ D_.out) | exact HB.out))) : w.heap.size ≤ bW)); have iQ := ah.mk ((by rw [hg]; exact Nat.ne_of_lt (dP (g := vM) (o := .cells #[.int .i64 aQ, .int .i64 a_, .slice cO aY.length cu, .int .i64 dw, .int .i64 dB, .slice gp bV.length fZ] 28 (0, 0)) (by (with_reducible repeat (first | refine ay ?_ _ | refine aC ?_ | refine az ?_ _)); exact qm.out)) : vM ≠ bW)); have jk := ah.mk ((by rw [hg]; exact Nat.ne_of_gt (dP (g := vM) (o := .cells #[.int .i64 aQ, .int .i64 a_, .slice cO aY.length cu, .int .i64 dw, .int .i64 dB, .slice gp bV.length fZ] 28 (0, 0)) (by (with_reducible repeat (first | refine ay ?_ _ | refine aC ?_ | refine az ?_ _)); exact qm.out)) : bW ≠ vM)); clear qm; clear HB; have qm := bT; have HB := dD; have b_ := dQ; have UQ := eH; have iJ := iw; have Iu := iQ; have Ir := jk; clear bT dD dQ eH iw iQ jk; clear hb hbox hg))
 (try simp only [Act.put, List.setIfInBounds_toArray, List.set_cons_zero, List.set_cons_succ])
 go_cut [7] (fun v7 wc => ∃ (kq : Nat) (wo : Bool), v7 = .bool wo ∧ ah (jW.j0 kq a2 wo = some r) ∧ ah (kq ≤ k) ∧ ah (wc.heap[vM]? = some (.cells #[.int .i64 aQ, .int .i64 a_, (.slice cO aY.length cu), .int .i64 dw, .int .i64 dB, (.slice gp bV.length fZ)] 28 (0, 0))) ∧ ah (wc.heap[bW]? = some (.cells #[.int .i64 dS, .int .i64 dZ, (.slice gY dI.length g_)] 26 (0, 0))) ∧ ah (Below w.heap.size w wc))
 case first =>
  have H := Oy.out
  clear Oy
  by_cases c7 : dS = 1
  · rw [if_pos c7] at H
    have yG : (dS == 1) = true := beq_iff_eq.mpr c7
    have LQ : (dS != 1) = false := bne_eq_false_iff_eq.mpr c7
    clear c7
    (first | rw [yG] | (simp only [aJ, aK]; rw [yG]) | skip)
    have H' := ah.mk H
    clear H
    have VB := Ir.out
    have VA := Iu.out
    have qZ : w6.cell? ⟨bW, 0, none⟩ = some (.int .i64 dS) := (aj b_.out 0).trans rfl
    have sZ : w6.cell? ⟨bW, 1, none⟩ = some (.int .i64 dZ) := (aj b_.out 1).trans rfl
    have sW : w6.cell? ⟨bW, 2, none⟩ = some (.slice gY dI.length g_) := (aj b_.out 2).trans rfl
    have qY := aA b_.out 0
    have sS := aA b_.out 1
    have sQ := aA b_.out 2
    have pX : w6.cell? ⟨vM, 0, none⟩ = some (.int .i64 aQ) := (aj qm.out 0).trans rfl
    have pW : w6.cell? ⟨vM, 1, none⟩ = some (.int .i64 a_) := (aj qm.out 1).trans rfl
    have pV : w6.cell? ⟨vM, 2, none⟩ = some (.slice cO aY.length cu) := (aj qm.out 2).trans rfl
    have um : w6.cell? ⟨vM, 3, none⟩ = some (.int .i64 dw) := (aj qm.out 3).trans rfl
    have uk : w6.cell? ⟨vM, 4, none⟩ = some (.int .i64 dB) := (aj qm.out 4).trans rfl
    have uj : w6.cell? ⟨vM, 5, none⟩ = some (.slice gp bV.length fZ) := (aj qm.out 5).trans rfl
    have pU := aA qm.out 0
    have pR := aA qm.out 1
    have pO := aA qm.out 2
    have uh := aA qm.out 3
    have ug := aA qm.out 4
    have uf := aA qm.out 5
    go_wp2
    go_meet
    case rel => exact ⟨_, ((dZ != aQ)), (by first | rfl | (simp; done) | (simp [*]; done)), H', ⟨by first | omega | exact Nat.le_refl _⟩, ⟨by (with_reducible repeat (first | refine ay ?_ _ | refine aC ?_ | refine az ?_ _)); exact qm.out⟩, ⟨by (with_reducible repeat (first | refine ay ?_ _ | refine aC ?_ | refine az ?_ _)); exact b_.out⟩, ⟨by repeat (first | (with_reducible first | exact HB.out | apply au | apply af | apply ak | refine aG ?_ D_.out | refine aG ?_ iJ.out) | exact HB.out)⟩⟩
  · rw [if_neg c7] at H
    have yG : (dS == 1) = false := beq_eq_false_iff_ne.mpr c7
    have LQ : (dS != 1) = true := bne_iff_ne.mpr c7
    (first | rw [yG] | (simp only [aJ, aK]; rw [yG]) | skip)
    have H' := ah.mk H
    clear H
    have Ph := Ir.out
    have Pe := Iu.out
    have nN : w6.cell? ⟨bW, 0, none⟩ = some (.int .i64 dS) := (aj b_.out 0).trans rfl
    have nM : w6.cell? ⟨bW, 1, none⟩ = some (.int .i64 dZ) := (aj b_.out 1).trans rfl
    have nK : w6.cell? ⟨bW, 2, none⟩ = some (.slice gY dI.length g_) := (aj b_.out 2).trans rfl
    have nJ := aA b_.out 0
    have nI := aA b_.out 1
    have nH := aA b_.out 2
    go_wp2
    go_meet
    case rel => exact ⟨_, (true), (by first | rfl | (simp; done) | (simp [*]; done)), H', ⟨by first | omega | exact Nat.le_refl _⟩, ⟨by (with_reducible repeat (first | refine ay ?_ _ | refine aC ?_ | refine az ?_ _)); exact qm.out⟩, ⟨by (with_reducible repeat (first | refine ay ?_ _ | refine aC ?_ | refine az ?_ _)); exact b_.out⟩, ⟨by repeat (first | (with_reducible first | exact HB.out | apply au | apply af | apply ak | refine aG ?_ D_.out | refine aG ?_ iJ.out) | exact HB.out)⟩⟩
 case rest =>
  clear Oy
  try clear c1
  try clear p2
  try clear c3
  try clear c7
  try clear yG
  try clear LQ
  try clear c8
  try clear c11
  try clear pX
  try clear pW
  try clear pV
  try clear um
  try clear uk
  try clear uj
  try clear nN
  try clear nM
  try clear nK
  try clear qZ
  try clear sZ
  try clear sW
  try clear pU
  try clear pR
  try clear pO
  try clear uh
  try clear ug
  try clear uf
  try clear nJ
  try clear nI
  try clear nH
  try clear qY
  try clear sS
  try clear sQ
  obtain ⟨kq, wo, rfl, HA, UK, qm, b_, HB⟩ := hcut
  cases kq with
  | zero => exact absurd HA.out (by simp [jW.j0])
  | succ TC =>
    have H := HA.out
    clear HA
    simp only [jW.j0] at H
    by_cases c13 : wo = true
    · subst c13
      rw [if_pos rfl] at H
      obtain rfl := Option.some.inj H
      go_wp2
      go_ret
      exact ⟨by first | rfl | (simp [aU, aT] <;> rfl) | (simp [*, aU, aT] <;> rfl), by repeat (first | (with_reducible first | exact HB.out | apply au | apply af | apply ak | refine aG ?_ D_.out | refine aG ?_ iJ.out) | exact HB.out)⟩
    · replace c13 := Bool.eq_false_iff.mpr c13
      subst c13
      have H1 : (if a2 ≤ 0 then (some 1) else (some 0)) = some r := by rw [if_neg (show ¬ (false = true) by decide)] at H; exact H
      clear H
      have H := H1
      clear H1
      by_cases c14 : a2 ≤ 0
      · rw [if_pos c14] at H
        have oQ : decide (a2 ≤ 0) = true := decide_eq_true c14
        clear c14
        obtain rfl := Option.some.inj H
        go_wp2
        go_ret
        exact ⟨by first | rfl | (simp [aU, aT] <;> rfl) | (simp [*, aU, aT] <;> rfl), by repeat (first | (with_reducible first | exact HB.out | apply au | apply af | apply ak | refine aG ?_ D_.out | refine aG ?_ iJ.out) | exact HB.out)⟩
      · rw [if_neg c14] at H
        have oQ : decide (a2 ≤ 0) = false := decide_eq_false c14
        clear c14
        obtain rfl := Option.some.inj H
        go_wp2
        go_ret
        exact ⟨by first | rfl | (simp [aU, aT] <;> rfl) | (simp [*, aU, aT] <;> rfl), by repeat (first | (with_reducible first | exact HB.out | apply au | apply af | apply ak | refine aG ?_ D_.out | refine aG ?_ iJ.out) | exact HB.out)⟩
def gz.f (a0 : Int) : Option (Int × Bool) := some (mn (mx a0 (-70368744177664)) 70368744177663, ((mn (mx a0 (-70368744177664)) 70368744177663) != a0))
theorem gz.calls (a0 : Int) (r1 : Int) (r2 : Bool) (w : World) (h : gz.f a0 = some (r1, r2)) :
 Calls Try.prog 86 #[.int .i64 a0] w fun e w' => e = .returned (.tuple #[.int .i64 r1, .bool r2]) ∧ Below w.heap.size w w' := by
 have HB := ah.mk (Below.refl w.heap.size w)
 have H : (some (mn (mx a0 (-70368744177664)) 70368744177663, ((mn (mx a0 (-70368744177664)) 70368744177663) != a0))) = some (r1, r2) := h
 clear h
 obtain ⟨ji2, VI⟩ : ∃ j_ : Int, (mx a0 (-70368744177664)) = j_ := ⟨_, rfl⟩
 replace H : (some (mn (ji2) 70368744177663, ((mn (ji2) 70368744177663) != a0))) = some (r1, r2) := by first | (rw [VI] at H; exact H) | (simp only [VI] at H ⊢; exact H)
 have akQ : (if a0 < (-70368744177664) then (-70368744177664) else a0) = ji2 := VI
 obtain ⟨GM, Bf⟩ : ∃ j_ : Int, (mn (ji2) 70368744177663) = j_ := ⟨_, rfl⟩
 replace H : (some (GM, ((GM) != a0))) = some (r1, r2) := by first | (rw [Bf] at H; exact H) | (simp only [Bf] at H ⊢; exact H)
 have abb : (if 70368744177663 < (ji2) then 70368744177663 else (ji2)) = GM := Bf
 simp only [Option.some.injEq, Prod.mk.injEq] at H
 obtain ⟨rfl, rfl⟩ := H
 go_enter Try.func86, Try.ntmps86
 go_wp2
 go_ret2
 exact ⟨by first | rfl | (simp [aU, aT] <;> rfl) | (simp only [← VI, ← Bf]; first | rfl | (simp [aU, aT] <;> rfl)) | (simp [*, aU, aT] <;> rfl), by repeat (first | (with_reducible first | exact HB.out | apply au | apply af | apply ak) | exact HB.out)⟩
end Go.Proofs.Ytninmcmajbfccaa.PQ

namespace Go.Proofs.Ytninmcmajbfccaa.PQ
open Go.RowKit Go.Proofs.aH.bK Go.Proofs.aH.dG Go.Proofs.aH.dJ
attribute [local go_sem] jS jQ kT kS ji jh jR jP
set_option linter.unusedVariables false
set_option linter.unusedSimpArgs false
def fJ.f (a0 : Int) (a1 : Int) : Option (Int × Int × Bool) := (gz.f a0).bind fun Gw => ((gz.f a1).bind fun oz => (if Gw.2 = true then (some (Gw.1, oz.1, true)) else (some (Gw.1, oz.1, oz.2))))
theorem fJ.calls (a0 : Int) (a1 : Int) (r1 : Int) (r2 : Int) (r3 : Bool) (w : World) (h : fJ.f a0 a1 = some (r1, r2, r3)) :
 Calls Try.prog 63 #[.int .i64 a0, .int .i64 a1] w fun e w' => e = .returned (.tuple #[.int .i64 r1, .int .i64 r2, .bool r3]) ∧ Below w.heap.size w w' := by
 have HB := ah.mk (Below.refl w.heap.size w)
 have H : ((gz.f a0).bind fun Gw => ((gz.f a1).bind fun oz => (if Gw.2 = true then (some (Gw.1, oz.1, true)) else (some (Gw.1, oz.1, oz.2))))) = some (r1, r2, r3) := h
 clear h
 replace H := Option.bind_eq_some_iff.mp H
 obtain ⟨⟨t127, t128⟩, xU, H⟩ := H
 replace H : ((gz.f a1).bind fun oz => (if t128 = true then (some (t127, oz.1, true)) else (some (t127, oz.1, oz.2)))) = some (r1, r2, r3) := H
 have A3 := ah.mk xU
 clear xU
 replace H := Option.bind_eq_some_iff.mp H
 obtain ⟨⟨t129, t130⟩, IE, H⟩ := H
 replace H : (if t128 = true then (some (t127, t129, true)) else (some (t127, t129, t130))) = some (r1, r2, r3) := H
 have A4 := ah.mk IE
 clear IE
 by_cases c5 : t128 = true
 · subst c5
   rw [if_pos rfl] at H
   simp only [Option.some.injEq, Prod.mk.injEq] at H
   obtain ⟨rfl, rfl, rfl⟩ := H
   go_enter Try.func63, Try.ntmps63
   go_wp2_with (first | ((with_reducible refine aV (f := 86) rfl ?_); refine cZ (some 11) rfl rfl Try.func86 (by kernel_rfl) rfl #[.int .i64 a0] rfl (by (try simp only [List.map_toArray, List.map_cons, List.map_nil]); first | done | rfl | (simp only [List.length_drop, List.length_take]; rfl)) ?_; (with_reducible refine (gz.calls a0 t127 true _ A3.out).mono ?_); rintro e w6 ⟨rfl, hb⟩; refine ⟨_, rfl, ?_⟩; have bT := ah.mk (aI (by repeat (first | (with_reducible first | exact HB.out | apply au | apply af | apply ak) | exact HB.out)) hb); clear HB; have HB := bT; clear bT; (try clear hb); (try clear hb2); (try clear hk); (try clear hi)) | ((with_reducible refine aV (f := 86) rfl ?_); refine cZ (some 16) rfl rfl Try.func86 (by kernel_rfl) rfl #[.int .i64 a1] rfl (by (try simp only [List.map_toArray, List.map_cons, List.map_nil]); first | done | rfl | (simp only [List.length_drop, List.length_take]; rfl)) ?_; (with_reducible refine (gz.calls a1 t129 t130 _ A4.out).mono ?_); rintro e w7 ⟨rfl, hb⟩; refine ⟨_, rfl, ?_⟩; have bT := ah.mk (aI (by repeat (first | (with_reducible first | exact HB.out | apply au | apply af | apply ak) | exact HB.out)) hb); clear HB; have HB := bT; clear bT; (try clear hb); (try clear hb2); (try clear hk); (try clear hi)))
   go_ret3
   exact ⟨by first | rfl | (simp [aU, aT] <;> rfl) | (simp [*, aU, aT] <;> rfl), by repeat (first | (with_reducible first | exact HB.out | apply au | apply af | apply ak) | exact HB.out)⟩
 · replace c5 := Bool.eq_false_iff.mpr c5
   subst c5
   have H1 : (some (t127, t129, t130)) = some (r1, r2, r3) := by rw [if_neg (show ¬ (false = true) by decide)] at H; exact H
   clear H
   have H := H1
   clear H1
   simp only [Option.some.injEq, Prod.mk.injEq] at H
   obtain ⟨rfl, rfl, rfl⟩ := H
   go_enter Try.func63, Try.ntmps63
   go_wp2_with (first | ((with_reducible refine aV (f := 86) rfl ?_); refine cZ (some 11) rfl rfl Try.func86 (by kernel_rfl) rfl #[.int .i64 a0] rfl (by (try simp only [List.map_toArray, List.map_cons, List.map_nil]); first | done | rfl | (simp only [List.length_drop, List.length_take]; rfl)) ?_; (with_reducible refine (gz.calls a0 t127 false _ A3.out).mono ?_); rintro e w8 ⟨rfl, hb⟩; refine ⟨_, rfl, ?_⟩; have bT := ah.mk (aI (by repeat (first | (with_reducible first | exact HB.out | apply au | apply af | apply ak) | exact HB.out)) hb); clear HB; have HB := bT; clear bT; (try clear hb); (try clear hb2); (try clear hk); (try clear hi)) | ((with_reducible refine aV (f := 86) rfl ?_); refine cZ (some 16) rfl rfl Try.func86 (by kernel_rfl) rfl #[.int .i64 a1] rfl (by (try simp only [List.map_toArray, List.map_cons, List.map_nil]); first | done | rfl | (simp only [List.length_drop, List.length_take]; rfl)) ?_; (with_reducible refine (gz.calls a1 t129 t130 _ A4.out).mono ?_); rintro e w9 ⟨rfl, hb⟩; refine ⟨_, rfl, ?_⟩; have bT := ah.mk (aI (by repeat (first | (with_reducible first | exact HB.out | apply au | apply af | apply ak) | exact HB.out)) hb); clear HB; have HB := bT; clear bT; (try clear hb); (try clear hb2); (try clear hk); (try clear hi)))
   go_ret3
   exact ⟨by first | rfl | (simp [aU, aT] <;> rfl) | (simp [*, aU, aT] <;> rfl), by repeat (first | (with_reducible first | exact HB.out | apply au | apply af | apply ak) | exact HB.out)⟩
def yj.f (a0 : Int) (a1 : Int) : Option (Int × Bool) := (fJ.f a0 a1).bind fun Gv => ((gz.f (wrap64 (Gv.1 - Gv.2.1))).bind fun yJ => (if Gv.2.2 = true then (some (yJ.1, true)) else (some (yJ.1, yJ.2))))
theorem yj.calls (a0 : Int) (a1 : Int) (r1 : Int) (r2 : Bool) (w : World) (h : yj.f a0 a1 = some (r1, r2)) :
 Calls Try.prog 61 #[.int .i64 a0, .int .i64 a1] w fun e w' => e = .returned (.tuple #[.int .i64 r1, .bool r2]) ∧ Below w.heap.size w w' := by
 have HB := ah.mk (Below.refl w.heap.size w)
 have H : ((fJ.f a0 a1).bind fun Gv => ((gz.f (wrap64 (Gv.1 - Gv.2.1))).bind fun yJ => (if Gv.2.2 = true then (some (yJ.1, true)) else (some (yJ.1, yJ.2))))) = some (r1, r2) := h
 clear h
 replace H := Option.bind_eq_some_iff.mp H
 obtain ⟨⟨t131, t132, t133⟩, xU, H⟩ := H
 replace H : ((gz.f (wrap64 (t131 - t132))).bind fun yJ => (if t133 = true then (some (yJ.1, true)) else (some (yJ.1, yJ.2)))) = some (r1, r2) := H
 have A3 := ah.mk xU
 clear xU
 replace H := Option.bind_eq_some_iff.mp H
 obtain ⟨⟨t134, t135⟩, IE, H⟩ := H
 replace H : (if t133 = true then (some (t134, true)) else (some (t134, t135))) = some (r1, r2) := H
 have A4 := ah.mk IE
 clear IE
 by_cases c5 : t133 = true
 · subst c5
   rw [if_pos rfl] at H
   simp only [Option.some.injEq, Prod.mk.injEq] at H
   obtain ⟨rfl, rfl⟩ := H
   go_enter Try.func61, Try.ntmps61
   go_wp2_with (first | ((with_reducible refine aV (f := 63) rfl ?_); refine cZ (some 12) rfl rfl Try.func63 (by kernel_rfl) rfl #[.int .i64 a0, .int .i64 a1] rfl (by (try simp only [List.map_toArray, List.map_cons, List.map_nil]); first | done | rfl | (simp only [List.length_drop, List.length_take]; rfl)) ?_; (with_reducible refine (fJ.calls a0 a1 t131 t132 true _ A3.out).mono ?_); rintro e w6 ⟨rfl, hb⟩; refine ⟨_, rfl, ?_⟩; have bT := ah.mk (aI (by repeat (first | (with_reducible first | exact HB.out | apply au | apply af | apply ak) | exact HB.out)) hb); clear HB; have HB := bT; clear bT; (try clear hb); (try clear hb2); (try clear hk); (try clear hi)) | ((with_reducible refine aV (f := 86) rfl ?_); refine cZ (some 20) rfl rfl Try.func86 (by kernel_rfl) rfl #[.int .i64 (wrap64 (t131 - t132))] rfl (by (try simp only [List.map_toArray, List.map_cons, List.map_nil]); first | done | rfl | (simp only [List.length_drop, List.length_take]; rfl)) ?_; (with_reducible refine (gz.calls (wrap64 (t131 - t132)) t134 t135 _ A4.out).mono ?_); rintro e w7 ⟨rfl, hb⟩; refine ⟨_, rfl, ?_⟩; have bT := ah.mk (aI (by repeat (first | (with_reducible first | exact HB.out | apply au | apply af | apply ak) | exact HB.out)) hb); clear HB; have HB := bT; clear bT; (try clear hb); (try clear hb2); (try clear hk); (try clear hi)))
   go_ret2
   exact ⟨by first | rfl | (simp [aU, aT] <;> rfl) | (simp [*, aU, aT] <;> rfl), by repeat (first | (with_reducible first | exact HB.out | apply au | apply af | apply ak) | exact HB.out)⟩
 · replace c5 := Bool.eq_false_iff.mpr c5
   subst c5
   have H1 : (some (t134, t135)) = some (r1, r2) := by rw [if_neg (show ¬ (false = true) by decide)] at H; exact H
   clear H
   have H := H1
   clear H1
   simp only [Option.some.injEq, Prod.mk.injEq] at H
   obtain ⟨rfl, rfl⟩ := H
   go_enter Try.func61, Try.ntmps61
   go_wp2_with (first | ((with_reducible refine aV (f := 63) rfl ?_); refine cZ (some 12) rfl rfl Try.func63 (by kernel_rfl) rfl #[.int .i64 a0, .int .i64 a1] rfl (by (try simp only [List.map_toArray, List.map_cons, List.map_nil]); first | done | rfl | (simp only [List.length_drop, List.length_take]; rfl)) ?_; (with_reducible refine (fJ.calls a0 a1 t131 t132 false _ A3.out).mono ?_); rintro e w8 ⟨rfl, hb⟩; refine ⟨_, rfl, ?_⟩; have bT := ah.mk (aI (by repeat (first | (with_reducible first | exact HB.out | apply au | apply af | apply ak) | exact HB.out)) hb); clear HB; have HB := bT; clear bT; (try clear hb); (try clear hb2); (try clear hk); (try clear hi)) | ((with_reducible refine aV (f := 86) rfl ?_); refine cZ (some 20) rfl rfl Try.func86 (by kernel_rfl) rfl #[.int .i64 (wrap64 (t131 - t132))] rfl (by (try simp only [List.map_toArray, List.map_cons, List.map_nil]); first | done | rfl | (simp only [List.length_drop, List.length_take]; rfl)) ?_; (with_reducible refine (gz.calls (wrap64 (t131 - t132)) t134 t135 _ A4.out).mono ?_); rintro e w9 ⟨rfl, hb⟩; refine ⟨_, rfl, ?_⟩; have bT := ah.mk (aI (by repeat (first | (with_reducible first | exact HB.out | apply au | apply af | apply ak) | exact HB.out)) hb); clear HB; have HB := bT; clear bT; (try clear hb); (try clear hb2); (try clear hk); (try clear hi)))
   go_ret2
   exact ⟨by first | rfl | (simp [aU, aT] <;> rfl) | (simp [*, aU, aT] <;> rfl), by repeat (first | (with_reducible first | exact HB.out | apply au | apply af | apply ak) | exact HB.out)⟩
def yt.f (a0 : Int) (a1 : Int) : Option (Int × Bool) := (fJ.f a0 a1).bind fun oU => ((gz.f (wrap64 (oU.1 + oU.2.1))).bind fun yI => (if oU.2.2 = true then (some (yI.1, true)) else (some (yI.1, yI.2))))
theorem yt.calls (a0 : Int) (a1 : Int) (r1 : Int) (r2 : Bool) (w : World) (h : yt.f a0 a1 = some (r1, r2)) :
 Calls Try.prog 62 #[.int .i64 a0, .int .i64 a1] w fun e w' => e = .returned (.tuple #[.int .i64 r1, .bool r2]) ∧ Below w.heap.size w w' := by
 have HB := ah.mk (Below.refl w.heap.size w)
 have H : ((fJ.f a0 a1).bind fun oU => ((gz.f (wrap64 (oU.1 + oU.2.1))).bind fun yI => (if oU.2.2 = true then (some (yI.1, true)) else (some (yI.1, yI.2))))) = some (r1, r2) := h
 clear h
 replace H := Option.bind_eq_some_iff.mp H
 obtain ⟨⟨t136, t137, t138⟩, xU, H⟩ := H
 replace H : ((gz.f (wrap64 (t136 + t137))).bind fun yI => (if t138 = true then (some (yI.1, true)) else (some (yI.1, yI.2)))) = some (r1, r2) := H
 have A3 := ah.mk xU
 clear xU
 replace H := Option.bind_eq_some_iff.mp H
 obtain ⟨⟨t139, t140⟩, IE, H⟩ := H
 replace H : (if t138 = true then (some (t139, true)) else (some (t139, t140))) = some (r1, r2) := H
 have A4 := ah.mk IE
 clear IE
 by_cases c5 : t138 = true
 · subst c5
   rw [if_pos rfl] at H
   simp only [Option.some.injEq, Prod.mk.injEq] at H
   obtain ⟨rfl, rfl⟩ := H
   go_enter Try.func62, Try.ntmps62
   go_wp2_with (first | ((with_reducible refine aV (f := 63) rfl ?_); refine cZ (some 12) rfl rfl Try.func63 (by kernel_rfl) rfl #[.int .i64 a0, .int .i64 a1] rfl (by (try simp only [List.map_toArray, List.map_cons, List.map_nil]); first | done | rfl | (simp only [List.length_drop, List.length_take]; rfl)) ?_; (with_reducible refine (fJ.calls a0 a1 t136 t137 true _ A3.out).mono ?_); rintro e w6 ⟨rfl, hb⟩; refine ⟨_, rfl, ?_⟩; have bT := ah.mk (aI (by repeat (first | (with_reducible first | exact HB.out | apply au | apply af | apply ak) | exact HB.out)) hb); clear HB; have HB := bT; clear bT; (try clear hb); (try clear hb2); (try clear hk); (try clear hi)) | ((with_reducible refine aV (f := 86) rfl ?_); refine cZ (some 20) rfl rfl Try.func86 (by kernel_rfl) rfl #[.int .i64 (wrap64 (t136 + t137))] rfl (by (try simp only [List.map_toArray, List.map_cons, List.map_nil]); first | done | rfl | (simp only [List.length_drop, List.length_take]; rfl)) ?_; (with_reducible refine (gz.calls (wrap64 (t136 + t137)) t139 t140 _ A4.out).mono ?_); rintro e w7 ⟨rfl, hb⟩; refine ⟨_, rfl, ?_⟩; have bT := ah.mk (aI (by repeat (first | (with_reducible first | exact HB.out | apply au | apply af | apply ak) | exact HB.out)) hb); clear HB; have HB := bT; clear bT; (try clear hb); (try clear hb2); (try clear hk); (try clear hi)))
   go_ret2
   exact ⟨by first | rfl | (simp [aU, aT] <;> rfl) | (simp [*, aU, aT] <;> rfl), by repeat (first | (with_reducible first | exact HB.out | apply au | apply af | apply ak) | exact HB.out)⟩
 · replace c5 := Bool.eq_false_iff.mpr c5
   subst c5
   have H1 : (some (t139, t140)) = some (r1, r2) := by rw [if_neg (show ¬ (false = true) by decide)] at H; exact H
   clear H
   have H := H1
   clear H1
   simp only [Option.some.injEq, Prod.mk.injEq] at H
   obtain ⟨rfl, rfl⟩ := H
   go_enter Try.func62, Try.ntmps62
   go_wp2_with (first | ((with_reducible refine aV (f := 63) rfl ?_); refine cZ (some 12) rfl rfl Try.func63 (by kernel_rfl) rfl #[.int .i64 a0, .int .i64 a1] rfl (by (try simp only [List.map_toArray, List.map_cons, List.map_nil]); first | done | rfl | (simp only [List.length_drop, List.length_take]; rfl)) ?_; (with_reducible refine (fJ.calls a0 a1 t136 t137 false _ A3.out).mono ?_); rintro e w8 ⟨rfl, hb⟩; refine ⟨_, rfl, ?_⟩; have bT := ah.mk (aI (by repeat (first | (with_reducible first | exact HB.out | apply au | apply af | apply ak) | exact HB.out)) hb); clear HB; have HB := bT; clear bT; (try clear hb); (try clear hb2); (try clear hk); (try clear hi)) | ((with_reducible refine aV (f := 86) rfl ?_); refine cZ (some 20) rfl rfl Try.func86 (by kernel_rfl) rfl #[.int .i64 (wrap64 (t136 + t137))] rfl (by (try simp only [List.map_toArray, List.map_cons, List.map_nil]); first | done | rfl | (simp only [List.length_drop, List.length_take]; rfl)) ?_; (with_reducible refine (gz.calls (wrap64 (t136 + t137)) t139 t140 _ A4.out).mono ?_); rintro e w9 ⟨rfl, hb⟩; refine ⟨_, rfl, ?_⟩; have bT := ah.mk (aI (by repeat (first | (with_reducible first | exact HB.out | apply au | apply af | apply ak) | exact HB.out)) hb); clear HB; have HB := bT; clear bT; (try clear hb); (try clear hb2); (try clear hk); (try clear hi)))
   go_ret2
   exact ⟨by first | rfl | (simp [aU, aT] <;> rfl) | (simp [*, aU, aT] <;> rfl), by repeat (first | (with_reducible first | exact HB.out | apply au | apply af | apply ak) | exact HB.out)⟩
def bits_Mul64.f (a0 : Int) (a1 : Int) : Option (Int × Int) := if 0 ≤ a0 ∧ a0 < 18446744073709551616 ∧ 0 ≤ a1 ∧ a1 < 18446744073709551616 then some (a0 * a1 / 18446744073709551616, a0 * a1 % 18446744073709551616) else none
theorem bits_Mul64.calls (a0 : Int) (a1 : Int) (r1 : Int) (r2 : Int) (w : World) (h : bits_Mul64.f a0 a1 = some (r1, r2)) :
 Calls Try.prog 64 #[.int .u64 a0, .int .u64 a1] w fun e w' => e = .returned (.tuple #[.int .u64 r1, .int .u64 r2]) ∧ dK w w' := by
 unfold bits_Mul64.f at h
 by_cases hb : 0 ≤ a0 ∧ a0 < 18446744073709551616 ∧ 0 ≤ a1 ∧ a1 < 18446744073709551616
 · rw [if_pos hb] at h
   simp only [Option.some.injEq, Prod.mk.injEq] at h
   obtain ⟨rfl, rfl⟩ := h
   obtain ⟨x, rfl⟩ := Int.eq_ofNat_of_zero_le hb.1
   obtain ⟨y, rfl⟩ := Int.eq_ofNat_of_zero_le hb.2.2.1
   refine (Try.bits_Mul64 x y (by omega) (by omega) w).mono ?_
   rintro e w' ⟨rfl, rfl⟩
   exact ⟨by simp, dK.refl _⟩
 · rw [if_neg hb] at h
   cases h
def dO.f (a0 : Int) : Option (Int) := if a0 < 0 then (some (IntKind.u64.wrap (wrap64 (-a0)))) else (some (IntKind.u64.wrap (a0)))
theorem dO.calls (a0 : Int) (r : Int) (w : World) (h : dO.f a0 = some r) :
 Calls Try.prog 65 #[.int .i64 a0] w fun e w' => e = .returned (.int .u64 r) ∧ dK w w' := by
 have H : (if a0 < 0 then (some (IntKind.u64.wrap (wrap64 (-a0)))) else (some (IntKind.u64.wrap (a0)))) = some r := h
 clear h
 by_cases c2 : a0 < 0
 · rw [if_pos c2] at H
   have Oj : decide (a0 < 0) = true := decide_eq_true c2
   clear c2
   obtain rfl := Option.some.inj H
   go_enter Try.func65, Try.ntmps65
   go_wp2
   go_ret
   exact ⟨by first | rfl | (simp; done) | (simp [*]; done), by repeat (first | exact dK.refl _ | apply dK.step)⟩
 · rw [if_neg c2] at H
   have Oj : decide (a0 < 0) = false := decide_eq_false c2
   clear c2
   obtain rfl := Option.some.inj H
   go_enter Try.func65, Try.ntmps65
   go_wp2
   go_ret
   exact ⟨by first | rfl | (simp; done) | (simp [*]; done), by repeat (first | exact dK.refl _ | apply dK.step)⟩
def xC (a0 : Int) : Int := mn (mx a0 (-70368744177664)) 70368744177663
def CZ (a0 : Int) : Bool := (mn (mx a0 (-70368744177664)) 70368744177663) != a0
theorem Ib (a0 : Int) (w : World) :
 Calls Try.prog 86 #[.int .i64 a0] w fun e w' => e = .returned (.tuple #[.int .i64 (xC a0), .bool (CZ a0)]) ∧ Below w.heap.size w w' :=
 gz.calls a0 _ _ w rfl
def uY (b : Bool) (a0 : Int) : Int := if b = true then wrap64 (-a0) else a0
theorem ES (a0 : Int) (b : Bool) (A : Addr) (w : World) (hc : w.cell? A = some (.bool b)) :
 Calls Try.prog 87 #[.int .i64 a0, .pointer (some A)] w fun e w' => e = .returned (.int .i64 (uY b a0)) ∧ w' = w := by
 cases b
 · go_enter Try.func87, Try.ntmps87
   go_wp2
   go_ret
   exact ⟨by simp [uY], rfl⟩
 · go_enter Try.func87, Try.ntmps87
   go_wp2
   go_ret
   exact ⟨by simp [uY], rfl⟩
theorem EU (a0 a1 : Int) (b : Bool) (w : World) (hd : ((a0 != 0) = true) ∨ ((a0 != 0) = false ∧ decide (a1 > 70368744177664) = true)) :
 Calls Try.prog 66 #[.int .u64 a0, .int .u64 a1, .bool b] w fun e w' => e = .returned (.tuple #[.int .i64 (xC (uY b 70368744177664)), .bool true]) ∧ Below w.heap.size w w' := by
 rcases hd with hd | ⟨hd, hd2⟩
 all_goals
  go_enter Try.func66, Try.ntmps66
  go_wp2_with (first | (go_at_call 87; refine (ES _ b _ _ (by simp)).mono ?_; rintro e w' ⟨rfl, rfl⟩) | (go_at_call 86; refine (Ib _ _).mono ?_; rintro e w' ⟨rfl, hb⟩))
  go_ret2
  exact ⟨rfl, ((Below.refl _ _).alloc (Nat.le_refl _) _).trans (hb.mono (by simp))⟩
theorem Kt (a0 a1 : Int) (b : Bool) (w : World) (hd : (a0 != 0) = false) (hd2 : decide (a1 > 70368744177664) = false) :
 Calls Try.prog 66 #[.int .u64 a0, .int .u64 a1, .bool b] w fun e w' => e = .returned (.tuple #[.int .i64 (xC (uY b (wrap64 a1))), .bool (CZ (uY b (wrap64 a1)))]) ∧ Below w.heap.size w w' := by
 go_enter Try.func66, Try.ntmps66
 go_wp2_with (first | (go_at_call 87; refine (ES _ b _ _ (by simp)).mono ?_; rintro e w' ⟨rfl, rfl⟩) | (go_at_call 86; refine (Ib _ _).mono ?_; rintro e w' ⟨rfl, hb⟩))
 go_ret2
 exact ⟨rfl, ((Below.refl _ _).alloc (Nat.le_refl _) _).trans (hb.mono (by simp))⟩
def bF.f (a0 : Int) (a1 : Int) (a2 : Bool) : Option (Int × Bool) :=
 if a0 = 0 then (if a1 > 70368744177664 then some (xC (uY a2 70368744177664), true) else some (xC (uY a2 (wrap64 a1)), CZ (uY a2 (wrap64 a1)))) else some (xC (uY a2 70368744177664), true)
theorem bF.calls (a0 : Int) (a1 : Int) (a2 : Bool) (r1 : Int) (r2 : Bool) (w : World) (h : bF.f a0 a1 a2 = some (r1, r2)) :
 Calls Try.prog 66 #[.int .u64 a0, .int .u64 a1, .bool a2] w fun e w' => e = .returned (.tuple #[.int .i64 r1, .bool r2]) ∧ Below w.heap.size w w' := by
 unfold bF.f at h
 by_cases h0 : a0 = 0
 · rw [if_pos h0] at h
   by_cases h1 : a1 > 70368744177664
   · rw [if_pos h1] at h
     simp only [Option.some.injEq, Prod.mk.injEq] at h
     obtain ⟨rfl, rfl⟩ := h
     exact EU a0 a1 a2 w (.inr ⟨by simp [h0], by simpa using h1⟩)
   · rw [if_neg h1] at h
     simp only [Option.some.injEq, Prod.mk.injEq] at h
     obtain ⟨rfl, rfl⟩ := h
     exact Kt a0 a1 a2 w (by simp [h0]) (by simpa using h1)
 · rw [if_neg h0] at h
   simp only [Option.some.injEq, Prod.mk.injEq] at h
   obtain ⟨rfl, rfl⟩ := h
   exact EU a0 a1 a2 w (.inl (by simp [h0]))
def yl.f (a0 : Int) (a1 : Int) : Option (Int × Bool) := (fJ.f a0 a1).bind fun lI => ((dO.f lI.1).bind fun t146 => ((dO.f lI.2.1).bind fun t147 => ((bits_Mul64.f t146 t147).bind fun fM => (if (Go.bits .and .u64 fM.2 16777215) > 8388608 then ((bF.f (fM.1 / 16777216) (IntKind.u64.wrap ((Go.bits .or .u64 (fM.2 / 16777216) (IntKind.u64.wrap (fM.1 * 1099511627776))) + 1)) ((decide (lI.1 < 0)) != (decide (lI.2.1 < 0)))).bind fun ou => (if lI.2.2 = true then (some (ou.1, true)) else (some (ou.1, ou.2)))) else (if (Go.bits .and .u64 fM.2 16777215) = 8388608 then (if (Go.bits .and .u64 (Go.bits .or .u64 (fM.2 / 16777216) (IntKind.u64.wrap (fM.1 * 1099511627776))) 1) = 1 then ((bF.f (fM.1 / 16777216) (IntKind.u64.wrap ((Go.bits .or .u64 (fM.2 / 16777216) (IntKind.u64.wrap (fM.1 * 1099511627776))) + 1)) ((decide (lI.1 < 0)) != (decide (lI.2.1 < 0)))).bind fun oq => (if lI.2.2 = true then (some (oq.1, true)) else (some (oq.1, oq.2)))) else ((bF.f (fM.1 / 16777216) (Go.bits .or .u64 (fM.2 / 16777216) (IntKind.u64.wrap (fM.1 * 1099511627776))) ((decide (lI.1 < 0)) != (decide (lI.2.1 < 0)))).bind fun iG => (if lI.2.2 = true then (some (iG.1, true)) else (some (iG.1, iG.2))))) else ((bF.f (fM.1 / 16777216) (Go.bits .or .u64 (fM.2 / 16777216) (IntKind.u64.wrap (fM.1 * 1099511627776))) ((decide (lI.1 < 0)) != (decide (lI.2.1 < 0)))).bind fun oh => (if lI.2.2 = true then (some (oh.1, true)) else (some (oh.1, oh.2)))))))))
theorem yl.calls (a0 : Int) (a1 : Int) (r1 : Int) (r2 : Bool) (w : World) (h : yl.f a0 a1 = some (r1, r2)) :
 Calls Try.prog 35 #[.int .i64 a0, .int .i64 a1] w fun e w' => e = .returned (.tuple #[.int .i64 r1, .bool r2]) ∧ Below w.heap.size w w' := by
 have HB := ah.mk (Below.refl w.heap.size w)
 have H : ((fJ.f a0 a1).bind fun lI => ((dO.f lI.1).bind fun t146 => ((dO.f lI.2.1).bind fun t147 => ((bits_Mul64.f t146 t147).bind fun fM => (if (Go.bits .and .u64 fM.2 16777215) > 8388608 then ((bF.f (fM.1 / 16777216) (IntKind.u64.wrap ((Go.bits .or .u64 (fM.2 / 16777216) (IntKind.u64.wrap (fM.1 * 1099511627776))) + 1)) ((decide (lI.1 < 0)) != (decide (lI.2.1 < 0)))).bind fun ou => (if lI.2.2 = true then (some (ou.1, true)) else (some (ou.1, ou.2)))) else (if (Go.bits .and .u64 fM.2 16777215) = 8388608 then (if (Go.bits .and .u64 (Go.bits .or .u64 (fM.2 / 16777216) (IntKind.u64.wrap (fM.1 * 1099511627776))) 1) = 1 then ((bF.f (fM.1 / 16777216) (IntKind.u64.wrap ((Go.bits .or .u64 (fM.2 / 16777216) (IntKind.u64.wrap (fM.1 * 1099511627776))) + 1)) ((decide (lI.1 < 0)) != (decide (lI.2.1 < 0)))).bind fun oq => (if lI.2.2 = true then (some (oq.1, true)) else (some (oq.1, oq.2)))) else ((bF.f (fM.1 / 16777216) (Go.bits .or .u64 (fM.2 / 16777216) (IntKind.u64.wrap (fM.1 * 1099511627776))) ((decide (lI.1 < 0)) != (decide (lI.2.1 < 0)))).bind fun iG => (if lI.2.2 = true then (some (iG.1, true)) else (some (iG.1, iG.2))))) else ((bF.f (fM.1 / 16777216) (Go.bits .or .u64 (fM.2 / 16777216) (IntKind.u64.wrap (fM.1 * 1099511627776))) ((decide (lI.1 < 0)) != (decide (lI.2.1 < 0)))).bind fun oh => (if lI.2.2 = true then (some (oh.1, true)) else (some (oh.1, oh.2)))))))))) = some (r1, r2) := h
 clear h
 replace H := Option.bind_eq_some_iff.mp H
 obtain ⟨⟨t143, t144, t145⟩, xU, H⟩ := H
 replace H : ((dO.f t143).bind fun t146 => ((dO.f t144).bind fun t147 => ((bits_Mul64.f t146 t147).bind fun fM => (if (Go.bits .and .u64 fM.2 16777215) > 8388608 then ((bF.f (fM.1 / 16777216) (IntKind.u64.wrap ((Go.bits .or .u64 (fM.2 / 16777216) (IntKind.u64.wrap (fM.1 * 1099511627776))) + 1)) ((decide (t143 < 0)) != (decide (t144 < 0)))).bind fun ou => (if t145 = true then (some (ou.1, true)) else (some (ou.1, ou.2)))) else (if (Go.bits .and .u64 fM.2 16777215) = 8388608 then (if (Go.bits .and .u64 (Go.bits .or .u64 (fM.2 / 16777216) (IntKind.u64.wrap (fM.1 * 1099511627776))) 1) = 1 then ((bF.f (fM.1 / 16777216) (IntKind.u64.wrap ((Go.bits .or .u64 (fM.2 / 16777216) (IntKind.u64.wrap (fM.1 * 1099511627776))) + 1)) ((decide (t143 < 0)) != (decide (t144 < 0)))).bind fun oq => (if t145 = true then (some (oq.1, true)) else (some (oq.1, oq.2)))) else ((bF.f (fM.1 / 16777216) (Go.bits .or .u64 (fM.2 / 16777216) (IntKind.u64.wrap (fM.1 * 1099511627776))) ((decide (t143 < 0)) != (decide (t144 < 0)))).bind fun iG => (if t145 = true then (some (iG.1, true)) else (some (iG.1, iG.2))))) else ((bF.f (fM.1 / 16777216) (Go.bits .or .u64 (fM.2 / 16777216) (IntKind.u64.wrap (fM.1 * 1099511627776))) ((decide (t143 < 0)) != (decide (t144 < 0)))).bind fun oh => (if t145 = true then (some (oh.1, true)) else (some (oh.1, oh.2))))))))) = some (r1, r2) := H
 have A3 := ah.mk xU
 clear xU
 replace H := Option.bind_eq_some_iff.mp H
 obtain ⟨t146, IE, H⟩ := H
 replace H : ((dO.f t144).bind fun t147 => ((bits_Mul64.f t146 t147).bind fun fM => (if (Go.bits .and .u64 fM.2 16777215) > 8388608 then ((bF.f (fM.1 / 16777216) (IntKind.u64.wrap ((Go.bits .or .u64 (fM.2 / 16777216) (IntKind.u64.wrap (fM.1 * 1099511627776))) + 1)) ((decide (t143 < 0)) != (decide (t144 < 0)))).bind fun ou => (if t145 = true then (some (ou.1, true)) else (some (ou.1, ou.2)))) else (if (Go.bits .and .u64 fM.2 16777215) = 8388608 then (if (Go.bits .and .u64 (Go.bits .or .u64 (fM.2 / 16777216) (IntKind.u64.wrap (fM.1 * 1099511627776))) 1) = 1 then ((bF.f (fM.1 / 16777216) (IntKind.u64.wrap ((Go.bits .or .u64 (fM.2 / 16777216) (IntKind.u64.wrap (fM.1 * 1099511627776))) + 1)) ((decide (t143 < 0)) != (decide (t144 < 0)))).bind fun oq => (if t145 = true then (some (oq.1, true)) else (some (oq.1, oq.2)))) else ((bF.f (fM.1 / 16777216) (Go.bits .or .u64 (fM.2 / 16777216) (IntKind.u64.wrap (fM.1 * 1099511627776))) ((decide (t143 < 0)) != (decide (t144 < 0)))).bind fun iG => (if t145 = true then (some (iG.1, true)) else (some (iG.1, iG.2))))) else ((bF.f (fM.1 / 16777216) (Go.bits .or .u64 (fM.2 / 16777216) (IntKind.u64.wrap (fM.1 * 1099511627776))) ((decide (t143 < 0)) != (decide (t144 < 0)))).bind fun oh => (if t145 = true then (some (oh.1, true)) else (some (oh.1, oh.2)))))))) = some (r1, r2) := H
 have A4 := ah.mk IE
 clear IE
 replace H := Option.bind_eq_some_iff.mp H
 obtain ⟨t147, QD, H⟩ := H
 replace H : ((bits_Mul64.f t146 t147).bind fun fM => (if (Go.bits .and .u64 fM.2 16777215) > 8388608 then ((bF.f (fM.1 / 16777216) (IntKind.u64.wrap ((Go.bits .or .u64 (fM.2 / 16777216) (IntKind.u64.wrap (fM.1 * 1099511627776))) + 1)) ((decide (t143 < 0)) != (decide (t144 < 0)))).bind fun ou => (if t145 = true then (some (ou.1, true)) else (some (ou.1, ou.2)))) else (if (Go.bits .and .u64 fM.2 16777215) = 8388608 then (if (Go.bits .and .u64 (Go.bits .or .u64 (fM.2 / 16777216) (IntKind.u64.wrap (fM.1 * 1099511627776))) 1) = 1 then ((bF.f (fM.1 / 16777216) (IntKind.u64.wrap ((Go.bits .or .u64 (fM.2 / 16777216) (IntKind.u64.wrap (fM.1 * 1099511627776))) + 1)) ((decide (t143 < 0)) != (decide (t144 < 0)))).bind fun oq => (if t145 = true then (some (oq.1, true)) else (some (oq.1, oq.2)))) else ((bF.f (fM.1 / 16777216) (Go.bits .or .u64 (fM.2 / 16777216) (IntKind.u64.wrap (fM.1 * 1099511627776))) ((decide (t143 < 0)) != (decide (t144 < 0)))).bind fun iG => (if t145 = true then (some (iG.1, true)) else (some (iG.1, iG.2))))) else ((bF.f (fM.1 / 16777216) (Go.bits .or .u64 (fM.2 / 16777216) (IntKind.u64.wrap (fM.1 * 1099511627776))) ((decide (t143 < 0)) != (decide (t144 < 0)))).bind fun oh => (if t145 = true then (some (oh.1, true)) else (some (oh.1, oh.2))))))) = some (r1, r2) := H
 have A5 := ah.mk QD
 clear QD
 replace H := Option.bind_eq_some_iff.mp H
 obtain ⟨⟨t148, t149⟩, U1, H⟩ := H
 replace H : (if (Go.bits .and .u64 t149 16777215) > 8388608 then ((bF.f (t148 / 16777216) (IntKind.u64.wrap ((Go.bits .or .u64 (t149 / 16777216) (IntKind.u64.wrap (t148 * 1099511627776))) + 1)) ((decide (t143 < 0)) != (decide (t144 < 0)))).bind fun ou => (if t145 = true then (some (ou.1, true)) else (some (ou.1, ou.2)))) else (if (Go.bits .and .u64 t149 16777215) = 8388608 then (if (Go.bits .and .u64 (Go.bits .or .u64 (t149 / 16777216) (IntKind.u64.wrap (t148 * 1099511627776))) 1) = 1 then ((bF.f (t148 / 16777216) (IntKind.u64.wrap ((Go.bits .or .u64 (t149 / 16777216) (IntKind.u64.wrap (t148 * 1099511627776))) + 1)) ((decide (t143 < 0)) != (decide (t144 < 0)))).bind fun oq => (if t145 = true then (some (oq.1, true)) else (some (oq.1, oq.2)))) else ((bF.f (t148 / 16777216) (Go.bits .or .u64 (t149 / 16777216) (IntKind.u64.wrap (t148 * 1099511627776))) ((decide (t143 < 0)) != (decide (t144 < 0)))).bind fun iG => (if t145 = true then (some (iG.1, true)) else (some (iG.1, iG.2))))) else ((bF.f (t148 / 16777216) (Go.bits .or .u64 (t149 / 16777216) (IntKind.u64.wrap (t148 * 1099511627776))) ((decide (t143 < 0)) != (decide (t144 < 0)))).bind fun oh => (if t145 = true then (some (oh.1, true)) else (some (oh.1, oh.2)))))) = some (r1, r2) := H
 have A6 := ah.mk U1
 clear U1
 by_cases c7 : (Go.bits .and .u64 t149 16777215) > 8388608
 · rw [if_pos c7] at H
   have yG : decide (8388608 < (Go.bits .and .u64 t149 16777215)) = true := decide_eq_true c7
   clear c7
   replace H := Option.bind_eq_some_iff.mp H
   obtain ⟨⟨t150, t151⟩, A80, H⟩ := H
   replace H : (if t145 = true then (some (t150, true)) else (some (t150, t151))) = some (r1, r2) := H
   have A8 := ah.mk A80
   clear A80
   by_cases c9 : t145 = true
   · subst c9
     rw [if_pos rfl] at H
     simp only [Option.some.injEq, Prod.mk.injEq] at H
     obtain ⟨rfl, rfl⟩ := H
     go_enter Try.func35, Try.ntmps35
     go_wp2_with (first | ((with_reducible refine aV (f := 63) rfl ?_); refine cZ (some 15) rfl rfl Try.func63 (by kernel_rfl) rfl #[.int .i64 a0, .int .i64 a1] rfl (by (try simp only [List.map_toArray, List.map_cons, List.map_nil]); first | done | rfl | (simp only [List.length_drop, List.length_take]; rfl)) ?_; (with_reducible refine (fJ.calls a0 a1 t143 t144 true _ A3.out).mono ?_); rintro e w10 ⟨rfl, hb⟩; refine ⟨_, rfl, ?_⟩; have bT := ah.mk (aI (by repeat (first | (with_reducible first | exact HB.out | apply au | apply af | apply ak) | exact HB.out)) hb); clear HB; have HB := bT; clear bT; (try clear hb); (try clear hb2); (try clear hk); (try clear hi)) | ((with_reducible refine aV (f := 65) rfl ?_); refine cZ (some 21) rfl rfl Try.func65 (by kernel_rfl) rfl #[.int .i64 t143] rfl (by (try simp only [List.map_toArray, List.map_cons, List.map_nil]); first | done | rfl | (simp only [List.length_drop, List.length_take]; rfl)) ?_; (with_reducible refine (dO.calls t143 t146 _ A4.out).mono ?_); rintro e w' ⟨rfl, ⟨nd, rfl⟩⟩; refine ⟨_, rfl, ?_⟩) | ((with_reducible refine aV (f := 65) rfl ?_); refine cZ (some 23) rfl rfl Try.func65 (by kernel_rfl) rfl #[.int .i64 t144] rfl (by (try simp only [List.map_toArray, List.map_cons, List.map_nil]); first | done | rfl | (simp only [List.length_drop, List.length_take]; rfl)) ?_; (with_reducible refine (dO.calls t144 t147 _ A5.out).mono ?_); rintro e w' ⟨rfl, ⟨nd, rfl⟩⟩; refine ⟨_, rfl, ?_⟩) | ((with_reducible refine aV (f := 64) rfl ?_); refine cZ (some 24) rfl rfl Try.func64 (by kernel_rfl) rfl #[.int .u64 t146, .int .u64 t147] rfl (by (try simp only [List.map_toArray, List.map_cons, List.map_nil]); first | done | rfl | (simp only [List.length_drop, List.length_take]; rfl)) ?_; (with_reducible refine (bits_Mul64.calls t146 t147 t148 t149 _ A6.out).mono ?_); rintro e w' ⟨rfl, ⟨nd, rfl⟩⟩; refine ⟨_, rfl, ?_⟩) | ((with_reducible refine aV (f := 66) rfl ?_); refine cZ (some 57) rfl rfl Try.func66 (by kernel_rfl) rfl #[.int .u64 (t148 / 16777216), .int .u64 (IntKind.u64.wrap ((Go.bits .or .u64 (t149 / 16777216) (IntKind.u64.wrap (t148 * 1099511627776))) + 1)), .bool ((decide (t143 < 0)) != (decide (t144 < 0)))] rfl (by (try simp only [List.map_toArray, List.map_cons, List.map_nil]); first | done | rfl | (simp only [List.length_drop, List.length_take]; rfl)) ?_; (with_reducible refine (bF.calls (t148 / 16777216) (IntKind.u64.wrap ((Go.bits .or .u64 (t149 / 16777216) (IntKind.u64.wrap (t148 * 1099511627776))) + 1)) ((decide (t143 < 0)) != (decide (t144 < 0))) t150 t151 _ A8.out).mono ?_); rintro e wY ⟨rfl, hb⟩; refine ⟨_, rfl, ?_⟩; have bT := ah.mk (aI (by repeat (first | (with_reducible first | exact HB.out | apply au | apply af | apply ak) | exact HB.out)) hb); clear HB; have HB := bT; clear bT; (try clear hb); (try clear hb2); (try clear hk); (try clear hi)))
     go_ret2
     exact ⟨by first | rfl | (simp [aU, aT] <;> rfl) | (simp [*, aU, aT] <;> rfl), by repeat (first | (with_reducible first | exact HB.out | apply au | apply af | apply ak) | exact HB.out)⟩
   · replace c9 := Bool.eq_false_iff.mpr c9
     subst c9
     have H1 : (some (t150, t151)) = some (r1, r2) := by rw [if_neg (show ¬ (false = true) by decide)] at H; exact H
     clear H
     have H := H1
     clear H1
     simp only [Option.some.injEq, Prod.mk.injEq] at H
     obtain ⟨rfl, rfl⟩ := H
     go_enter Try.func35, Try.ntmps35
     go_wp2_with (first | ((with_reducible refine aV (f := 63) rfl ?_); refine cZ (some 15) rfl rfl Try.func63 (by kernel_rfl) rfl #[.int .i64 a0, .int .i64 a1] rfl (by (try simp only [List.map_toArray, List.map_cons, List.map_nil]); first | done | rfl | (simp only [List.length_drop, List.length_take]; rfl)) ?_; (with_reducible refine (fJ.calls a0 a1 t143 t144 false _ A3.out).mono ?_); rintro e w12 ⟨rfl, hb⟩; refine ⟨_, rfl, ?_⟩; have bT := ah.mk (aI (by repeat (first | (with_reducible first | exact HB.out | apply au | apply af | apply ak) | exact HB.out)) hb); clear HB; have HB := bT; clear bT; (try clear hb); (try clear hb2); (try clear hk); (try clear hi)) | ((with_reducible refine aV (f := 65) rfl ?_); refine cZ (some 21) rfl rfl Try.func65 (by kernel_rfl) rfl #[.int .i64 t143] rfl (by (try simp only [List.map_toArray, List.map_cons, List.map_nil]); first | done | rfl | (simp only [List.length_drop, List.length_take]; rfl)) ?_; (with_reducible refine (dO.calls t143 t146 _ A4.out).mono ?_); rintro e w' ⟨rfl, ⟨nd, rfl⟩⟩; refine ⟨_, rfl, ?_⟩) | ((with_reducible refine aV (f := 65) rfl ?_); refine cZ (some 23) rfl rfl Try.func65 (by kernel_rfl) rfl #[.int .i64 t144] rfl (by (try simp only [List.map_toArray, List.map_cons, List.map_nil]); first | done | rfl | (simp only [List.length_drop, List.length_take]; rfl)) ?_; (with_reducible refine (dO.calls t144 t147 _ A5.out).mono ?_); rintro e w' ⟨rfl, ⟨nd, rfl⟩⟩; refine ⟨_, rfl, ?_⟩) | ((with_reducible refine aV (f := 64) rfl ?_); refine cZ (some 24) rfl rfl Try.func64 (by kernel_rfl) rfl #[.int .u64 t146, .int .u64 t147] rfl (by (try simp only [List.map_toArray, List.map_cons, List.map_nil]); first | done | rfl | (simp only [List.length_drop, List.length_take]; rfl)) ?_; (with_reducible refine (bits_Mul64.calls t146 t147 t148 t149 _ A6.out).mono ?_); rintro e w' ⟨rfl, ⟨nd, rfl⟩⟩; refine ⟨_, rfl, ?_⟩) | ((with_reducible refine aV (f := 66) rfl ?_); refine cZ (some 57) rfl rfl Try.func66 (by kernel_rfl) rfl #[.int .u64 (t148 / 16777216), .int .u64 (IntKind.u64.wrap ((Go.bits .or .u64 (t149 / 16777216) (IntKind.u64.wrap (t148 * 1099511627776))) + 1)), .bool ((decide (t143 < 0)) != (decide (t144 < 0)))] rfl (by (try simp only [List.map_toArray, List.map_cons, List.map_nil]); first | done | rfl | (simp only [List.length_drop, List.length_take]; rfl)) ?_; (with_reducible refine (bF.calls (t148 / 16777216) (IntKind.u64.wrap ((Go.bits .or .u64 (t149 / 16777216) (IntKind.u64.wrap (t148 * 1099511627776))) + 1)) ((decide (t143 < 0)) != (decide (t144 < 0))) t150 t151 _ A8.out).mono ?_); rintro e SC ⟨rfl, hb⟩; refine ⟨_, rfl, ?_⟩; have bT := ah.mk (aI (by repeat (first | (with_reducible first | exact HB.out | apply au | apply af | apply ak) | exact HB.out)) hb); clear HB; have HB := bT; clear bT; (try clear hb); (try clear hb2); (try clear hk); (try clear hi)))
     go_ret2
     exact ⟨by first | rfl | (simp [aU, aT] <;> rfl) | (simp [*, aU, aT] <;> rfl), by repeat (first | (with_reducible first | exact HB.out | apply au | apply af | apply ak) | exact HB.out)⟩
 · rw [if_neg c7] at H
   have yG : decide (8388608 < (Go.bits .and .u64 t149 16777215)) = false := decide_eq_false c7
   clear c7
   by_cases c14 : (Go.bits .and .u64 t149 16777215) = 8388608
   · rw [if_pos c14] at H
     have oQ : ((Go.bits .and .u64 t149 16777215) == 8388608) = true := beq_iff_eq.mpr c14
     have vO : ((Go.bits .and .u64 t149 16777215) != 8388608) = false := bne_eq_false_iff_eq.mpr c14
     clear c14
     by_cases c15 : (Go.bits .and .u64 (Go.bits .or .u64 (t149 / 16777216) (IntKind.u64.wrap (t148 * 1099511627776))) 1) = 1
     · rw [if_pos c15] at H
       have Gp : ((Go.bits .and .u64 (Go.bits .or .u64 (t149 / 16777216) (IntKind.u64.wrap (t148 * 1099511627776))) 1) == 1) = true := beq_iff_eq.mpr c15
       have abP : ((Go.bits .and .u64 (Go.bits .or .u64 (t149 / 16777216) (IntKind.u64.wrap (t148 * 1099511627776))) 1) != 1) = false := bne_eq_false_iff_eq.mpr c15
       clear c15
       replace H := Option.bind_eq_some_iff.mp H
       obtain ⟨⟨t152, t153⟩, GK, H⟩ := H
       replace H : (if t145 = true then (some (t152, true)) else (some (t152, t153))) = some (r1, r2) := H
       have J3 := ah.mk GK
       clear GK
       by_cases c17 : t145 = true
       · subst c17
         rw [if_pos rfl] at H
         simp only [Option.some.injEq, Prod.mk.injEq] at H
         obtain ⟨rfl, rfl⟩ := H
         go_enter Try.func35, Try.ntmps35
         go_wp2_with (first | ((with_reducible refine aV (f := 63) rfl ?_); refine cZ (some 15) rfl rfl Try.func63 (by kernel_rfl) rfl #[.int .i64 a0, .int .i64 a1] rfl (by (try simp only [List.map_toArray, List.map_cons, List.map_nil]); first | done | rfl | (simp only [List.length_drop, List.length_take]; rfl)) ?_; (with_reducible refine (fJ.calls a0 a1 t143 t144 true _ A3.out).mono ?_); rintro e w18 ⟨rfl, hb⟩; refine ⟨_, rfl, ?_⟩; have bT := ah.mk (aI (by repeat (first | (with_reducible first | exact HB.out | apply au | apply af | apply ak) | exact HB.out)) hb); clear HB; have HB := bT; clear bT; (try clear hb); (try clear hb2); (try clear hk); (try clear hi)) | ((with_reducible refine aV (f := 65) rfl ?_); refine cZ (some 21) rfl rfl Try.func65 (by kernel_rfl) rfl #[.int .i64 t143] rfl (by (try simp only [List.map_toArray, List.map_cons, List.map_nil]); first | done | rfl | (simp only [List.length_drop, List.length_take]; rfl)) ?_; (with_reducible refine (dO.calls t143 t146 _ A4.out).mono ?_); rintro e w' ⟨rfl, ⟨nd, rfl⟩⟩; refine ⟨_, rfl, ?_⟩) | ((with_reducible refine aV (f := 65) rfl ?_); refine cZ (some 23) rfl rfl Try.func65 (by kernel_rfl) rfl #[.int .i64 t144] rfl (by (try simp only [List.map_toArray, List.map_cons, List.map_nil]); first | done | rfl | (simp only [List.length_drop, List.length_take]; rfl)) ?_; (with_reducible refine (dO.calls t144 t147 _ A5.out).mono ?_); rintro e w' ⟨rfl, ⟨nd, rfl⟩⟩; refine ⟨_, rfl, ?_⟩) | ((with_reducible refine aV (f := 64) rfl ?_); refine cZ (some 24) rfl rfl Try.func64 (by kernel_rfl) rfl #[.int .u64 t146, .int .u64 t147] rfl (by (try simp only [List.map_toArray, List.map_cons, List.map_nil]); first | done | rfl | (simp only [List.length_drop, List.length_take]; rfl)) ?_; (with_reducible refine (bits_Mul64.calls t146 t147 t148 t149 _ A6.out).mono ?_); rintro e w' ⟨rfl, ⟨nd, rfl⟩⟩; refine ⟨_, rfl, ?_⟩) | ((with_reducible refine aV (f := 66) rfl ?_); refine cZ (some 57) rfl rfl Try.func66 (by kernel_rfl) rfl #[.int .u64 (t148 / 16777216), .int .u64 (IntKind.u64.wrap ((Go.bits .or .u64 (t149 / 16777216) (IntKind.u64.wrap (t148 * 1099511627776))) + 1)), .bool ((decide (t143 < 0)) != (decide (t144 < 0)))] rfl (by (try simp only [List.map_toArray, List.map_cons, List.map_nil]); first | done | rfl | (simp only [List.length_drop, List.length_take]; rfl)) ?_; (with_reducible refine (bF.calls (t148 / 16777216) (IntKind.u64.wrap ((Go.bits .or .u64 (t149 / 16777216) (IntKind.u64.wrap (t148 * 1099511627776))) + 1)) ((decide (t143 < 0)) != (decide (t144 < 0))) t152 t153 _ J3.out).mono ?_); rintro e Eb ⟨rfl, hb⟩; refine ⟨_, rfl, ?_⟩; have bT := ah.mk (aI (by repeat (first | (with_reducible first | exact HB.out | apply au | apply af | apply ak) | exact HB.out)) hb); clear HB; have HB := bT; clear bT; (try clear hb); (try clear hb2); (try clear hk); (try clear hi)))
         go_ret2
         exact ⟨by first | rfl | (simp [aU, aT] <;> rfl) | (simp [*, aU, aT] <;> rfl), by repeat (first | (with_reducible first | exact HB.out | apply au | apply af | apply ak) | exact HB.out)⟩
       · replace c17 := Bool.eq_false_iff.mpr c17
         subst c17
         have H1 : (some (t152, t153)) = some (r1, r2) := by rw [if_neg (show ¬ (false = true) by decide)] at H; exact H
         clear H
         have H := H1
         clear H1
         simp only [Option.some.injEq, Prod.mk.injEq] at H
         obtain ⟨rfl, rfl⟩ := H
         go_enter Try.func35, Try.ntmps35
         go_wp2_with (first | ((with_reducible refine aV (f := 63) rfl ?_); refine cZ (some 15) rfl rfl Try.func63 (by kernel_rfl) rfl #[.int .i64 a0, .int .i64 a1] rfl (by (try simp only [List.map_toArray, List.map_cons, List.map_nil]); first | done | rfl | (simp only [List.length_drop, List.length_take]; rfl)) ?_; (with_reducible refine (fJ.calls a0 a1 t143 t144 false _ A3.out).mono ?_); rintro e w20 ⟨rfl, hb⟩; refine ⟨_, rfl, ?_⟩; have bT := ah.mk (aI (by repeat (first | (with_reducible first | exact HB.out | apply au | apply af | apply ak) | exact HB.out)) hb); clear HB; have HB := bT; clear bT; (try clear hb); (try clear hb2); (try clear hk); (try clear hi)) | ((with_reducible refine aV (f := 65) rfl ?_); refine cZ (some 21) rfl rfl Try.func65 (by kernel_rfl) rfl #[.int .i64 t143] rfl (by (try simp only [List.map_toArray, List.map_cons, List.map_nil]); first | done | rfl | (simp only [List.length_drop, List.length_take]; rfl)) ?_; (with_reducible refine (dO.calls t143 t146 _ A4.out).mono ?_); rintro e w' ⟨rfl, ⟨nd, rfl⟩⟩; refine ⟨_, rfl, ?_⟩) | ((with_reducible refine aV (f := 65) rfl ?_); refine cZ (some 23) rfl rfl Try.func65 (by kernel_rfl) rfl #[.int .i64 t144] rfl (by (try simp only [List.map_toArray, List.map_cons, List.map_nil]); first | done | rfl | (simp only [List.length_drop, List.length_take]; rfl)) ?_; (with_reducible refine (dO.calls t144 t147 _ A5.out).mono ?_); rintro e w' ⟨rfl, ⟨nd, rfl⟩⟩; refine ⟨_, rfl, ?_⟩) | ((with_reducible refine aV (f := 64) rfl ?_); refine cZ (some 24) rfl rfl Try.func64 (by kernel_rfl) rfl #[.int .u64 t146, .int .u64 t147] rfl (by (try simp only [List.map_toArray, List.map_cons, List.map_nil]); first | done | rfl | (simp only [List.length_drop, List.length_take]; rfl)) ?_; (with_reducible refine (bits_Mul64.calls t146 t147 t148 t149 _ A6.out).mono ?_); rintro e w' ⟨rfl, ⟨nd, rfl⟩⟩; refine ⟨_, rfl, ?_⟩) | ((with_reducible refine aV (f := 66) rfl ?_); refine cZ (some 57) rfl rfl Try.func66 (by kernel_rfl) rfl #[.int .u64 (t148 / 16777216), .int .u64 (IntKind.u64.wrap ((Go.bits .or .u64 (t149 / 16777216) (IntKind.u64.wrap (t148 * 1099511627776))) + 1)), .bool ((decide (t143 < 0)) != (decide (t144 < 0)))] rfl (by (try simp only [List.map_toArray, List.map_cons, List.map_nil]); first | done | rfl | (simp only [List.length_drop, List.length_take]; rfl)) ?_; (with_reducible refine (bF.calls (t148 / 16777216) (IntKind.u64.wrap ((Go.bits .or .u64 (t149 / 16777216) (IntKind.u64.wrap (t148 * 1099511627776))) + 1)) ((decide (t143 < 0)) != (decide (t144 < 0))) t152 t153 _ J3.out).mono ?_); rintro e U9 ⟨rfl, hb⟩; refine ⟨_, rfl, ?_⟩; have bT := ah.mk (aI (by repeat (first | (with_reducible first | exact HB.out | apply au | apply af | apply ak) | exact HB.out)) hb); clear HB; have HB := bT; clear bT; (try clear hb); (try clear hb2); (try clear hk); (try clear hi)))
         go_ret2
         exact ⟨by first | rfl | (simp [aU, aT] <;> rfl) | (simp [*, aU, aT] <;> rfl), by repeat (first | (with_reducible first | exact HB.out | apply au | apply af | apply ak) | exact HB.out)⟩
     · rw [if_neg c15] at H
       have Gp : ((Go.bits .and .u64 (Go.bits .or .u64 (t149 / 16777216) (IntKind.u64.wrap (t148 * 1099511627776))) 1) == 1) = false := beq_eq_false_iff_ne.mpr c15
       have abP : ((Go.bits .and .u64 (Go.bits .or .u64 (t149 / 16777216) (IntKind.u64.wrap (t148 * 1099511627776))) 1) != 1) = true := bne_iff_ne.mpr c15
       replace H := Option.bind_eq_some_iff.mp H
       obtain ⟨⟨t154, t155⟩, adw, H⟩ := H
       replace H : (if t145 = true then (some (t154, true)) else (some (t154, t155))) = some (r1, r2) := H
       have A22 := ah.mk adw
       clear adw
       by_cases c23 : t145 = true
       · subst c23
         rw [if_pos rfl] at H
         simp only [Option.some.injEq, Prod.mk.injEq] at H
         obtain ⟨rfl, rfl⟩ := H
         go_enter Try.func35, Try.ntmps35
         go_wp2_with (first | ((with_reducible refine aV (f := 63) rfl ?_); refine cZ (some 15) rfl rfl Try.func63 (by kernel_rfl) rfl #[.int .i64 a0, .int .i64 a1] rfl (by (try simp only [List.map_toArray, List.map_cons, List.map_nil]); first | done | rfl | (simp only [List.length_drop, List.length_take]; rfl)) ?_; (with_reducible refine (fJ.calls a0 a1 t143 t144 true _ A3.out).mono ?_); rintro e YP ⟨rfl, hb⟩; refine ⟨_, rfl, ?_⟩; have bT := ah.mk (aI (by repeat (first | (with_reducible first | exact HB.out | apply au | apply af | apply ak) | exact HB.out)) hb); clear HB; have HB := bT; clear bT; (try clear hb); (try clear hb2); (try clear hk); (try clear hi)) | ((with_reducible refine aV (f := 65) rfl ?_); refine cZ (some 21) rfl rfl Try.func65 (by kernel_rfl) rfl #[.int .i64 t143] rfl (by (try simp only [List.map_toArray, List.map_cons, List.map_nil]); first | done | rfl | (simp only [List.length_drop, List.length_take]; rfl)) ?_; (with_reducible refine (dO.calls t143 t146 _ A4.out).mono ?_); rintro e w' ⟨rfl, ⟨nd, rfl⟩⟩; refine ⟨_, rfl, ?_⟩) | ((with_reducible refine aV (f := 65) rfl ?_); refine cZ (some 23) rfl rfl Try.func65 (by kernel_rfl) rfl #[.int .i64 t144] rfl (by (try simp only [List.map_toArray, List.map_cons, List.map_nil]); first | done | rfl | (simp only [List.length_drop, List.length_take]; rfl)) ?_; (with_reducible refine (dO.calls t144 t147 _ A5.out).mono ?_); rintro e w' ⟨rfl, ⟨nd, rfl⟩⟩; refine ⟨_, rfl, ?_⟩) | ((with_reducible refine aV (f := 64) rfl ?_); refine cZ (some 24) rfl rfl Try.func64 (by kernel_rfl) rfl #[.int .u64 t146, .int .u64 t147] rfl (by (try simp only [List.map_toArray, List.map_cons, List.map_nil]); first | done | rfl | (simp only [List.length_drop, List.length_take]; rfl)) ?_; (with_reducible refine (bits_Mul64.calls t146 t147 t148 t149 _ A6.out).mono ?_); rintro e w' ⟨rfl, ⟨nd, rfl⟩⟩; refine ⟨_, rfl, ?_⟩) | ((with_reducible refine aV (f := 66) rfl ?_); refine cZ (some 57) rfl rfl Try.func66 (by kernel_rfl) rfl #[.int .u64 (t148 / 16777216), .int .u64 (Go.bits .or .u64 (t149 / 16777216) (IntKind.u64.wrap (t148 * 1099511627776))), .bool ((decide (t143 < 0)) != (decide (t144 < 0)))] rfl (by (try simp only [List.map_toArray, List.map_cons, List.map_nil]); first | done | rfl | (simp only [List.length_drop, List.length_take]; rfl)) ?_; (with_reducible refine (bF.calls (t148 / 16777216) (Go.bits .or .u64 (t149 / 16777216) (IntKind.u64.wrap (t148 * 1099511627776))) ((decide (t143 < 0)) != (decide (t144 < 0))) t154 t155 _ A22.out).mono ?_); rintro e w25 ⟨rfl, hb⟩; refine ⟨_, rfl, ?_⟩; have bT := ah.mk (aI (by repeat (first | (with_reducible first | exact HB.out | apply au | apply af | apply ak) | exact HB.out)) hb); clear HB; have HB := bT; clear bT; (try clear hb); (try clear hb2); (try clear hk); (try clear hi)))
         go_ret2
         exact ⟨by first | rfl | (simp [aU, aT] <;> rfl) | (simp [*, aU, aT] <;> rfl), by repeat (first | (with_reducible first | exact HB.out | apply au | apply af | apply ak) | exact HB.out)⟩
       · replace c23 := Bool.eq_false_iff.mpr c23
         subst c23
         have H1 : (some (t154, t155)) = some (r1, r2) := by rw [if_neg (show ¬ (false = true) by decide)] at H; exact H
         clear H
         have H := H1
         clear H1
         simp only [Option.some.injEq, Prod.mk.injEq] at H
         obtain ⟨rfl, rfl⟩ := H
         go_enter Try.func35, Try.ntmps35
         go_wp2_with (first | ((with_reducible refine aV (f := 63) rfl ?_); refine cZ (some 15) rfl rfl Try.func63 (by kernel_rfl) rfl #[.int .i64 a0, .int .i64 a1] rfl (by (try simp only [List.map_toArray, List.map_cons, List.map_nil]); first | done | rfl | (simp only [List.length_drop, List.length_take]; rfl)) ?_; (with_reducible refine (fJ.calls a0 a1 t143 t144 false _ A3.out).mono ?_); rintro e X8 ⟨rfl, hb⟩; refine ⟨_, rfl, ?_⟩; have bT := ah.mk (aI (by repeat (first | (with_reducible first | exact HB.out | apply au | apply af | apply ak) | exact HB.out)) hb); clear HB; have HB := bT; clear bT; (try clear hb); (try clear hb2); (try clear hk); (try clear hi)) | ((with_reducible refine aV (f := 65) rfl ?_); refine cZ (some 21) rfl rfl Try.func65 (by kernel_rfl) rfl #[.int .i64 t143] rfl (by (try simp only [List.map_toArray, List.map_cons, List.map_nil]); first | done | rfl | (simp only [List.length_drop, List.length_take]; rfl)) ?_; (with_reducible refine (dO.calls t143 t146 _ A4.out).mono ?_); rintro e w' ⟨rfl, ⟨nd, rfl⟩⟩; refine ⟨_, rfl, ?_⟩) | ((with_reducible refine aV (f := 65) rfl ?_); refine cZ (some 23) rfl rfl Try.func65 (by kernel_rfl) rfl #[.int .i64 t144] rfl (by (try simp only [List.map_toArray, List.map_cons, List.map_nil]); first | done | rfl | (simp only [List.length_drop, List.length_take]; rfl)) ?_; (with_reducible refine (dO.calls t144 t147 _ A5.out).mono ?_); rintro e w' ⟨rfl, ⟨nd, rfl⟩⟩; refine ⟨_, rfl, ?_⟩) | ((with_reducible refine aV (f := 64) rfl ?_); refine cZ (some 24) rfl rfl Try.func64 (by kernel_rfl) rfl #[.int .u64 t146, .int .u64 t147] rfl (by (try simp only [List.map_toArray, List.map_cons, List.map_nil]); first | done | rfl | (simp only [List.length_drop, List.length_take]; rfl)) ?_; (with_reducible refine (bits_Mul64.calls t146 t147 t148 t149 _ A6.out).mono ?_); rintro e w' ⟨rfl, ⟨nd, rfl⟩⟩; refine ⟨_, rfl, ?_⟩) | ((with_reducible refine aV (f := 66) rfl ?_); refine cZ (some 57) rfl rfl Try.func66 (by kernel_rfl) rfl #[.int .u64 (t148 / 16777216), .int .u64 (Go.bits .or .u64 (t149 / 16777216) (IntKind.u64.wrap (t148 * 1099511627776))), .bool ((decide (t143 < 0)) != (decide (t144 < 0)))] rfl (by (try simp only [List.map_toArray, List.map_cons, List.map_nil]); first | done | rfl | (simp only [List.length_drop, List.length_take]; rfl)) ?_; (with_reducible refine (bF.calls (t148 / 16777216) (Go.bits .or .u64 (t149 / 16777216) (IntKind.u64.wrap (t148 * 1099511627776))) ((decide (t143 < 0)) != (decide (t144 < 0))) t154 t155 _ A22.out).mono ?_); rintro e X7 ⟨rfl, hb⟩; refine ⟨_, rfl, ?_⟩; have bT := ah.mk (aI (by repeat (first | (with_reducible first | exact HB.out | apply au | apply af | apply ak) | exact HB.out)) hb); clear HB; have HB := bT; clear bT; (try clear hb); (try clear hb2); (try clear hk); (try clear hi)))
         go_ret2
         exact ⟨by first | rfl | (simp [aU, aT] <;> rfl) | (simp [*, aU, aT] <;> rfl), by repeat (first | (with_reducible first | exact HB.out | apply au | apply af | apply ak) | exact HB.out)⟩
   · rw [if_neg c14] at H
     have oQ : ((Go.bits .and .u64 t149 16777215) == 8388608) = false := beq_eq_false_iff_ne.mpr c14
     have vO : ((Go.bits .and .u64 t149 16777215) != 8388608) = true := bne_iff_ne.mpr c14
     replace H := Option.bind_eq_some_iff.mp H
     obtain ⟨⟨t156, t157⟩, adt, H⟩ := H
     replace H : (if t145 = true then (some (t156, true)) else (some (t156, t157))) = some (r1, r2) := H
     have A28 := ah.mk adt
     clear adt
     by_cases c29 : t145 = true
     · subst c29
       rw [if_pos rfl] at H
       simp only [Option.some.injEq, Prod.mk.injEq] at H
       obtain ⟨rfl, rfl⟩ := H
       go_enter Try.func35, Try.ntmps35
       go_wp2_with (first | ((with_reducible refine aV (f := 63) rfl ?_); refine cZ (some 15) rfl rfl Try.func63 (by kernel_rfl) rfl #[.int .i64 a0, .int .i64 a1] rfl (by (try simp only [List.map_toArray, List.map_cons, List.map_nil]); first | done | rfl | (simp only [List.length_drop, List.length_take]; rfl)) ?_; (with_reducible refine (fJ.calls a0 a1 t143 t144 true _ A3.out).mono ?_); rintro e MP ⟨rfl, hb⟩; refine ⟨_, rfl, ?_⟩; have bT := ah.mk (aI (by repeat (first | (with_reducible first | exact HB.out | apply au | apply af | apply ak) | exact HB.out)) hb); clear HB; have HB := bT; clear bT; (try clear hb); (try clear hb2); (try clear hk); (try clear hi)) | ((with_reducible refine aV (f := 65) rfl ?_); refine cZ (some 21) rfl rfl Try.func65 (by kernel_rfl) rfl #[.int .i64 t143] rfl (by (try simp only [List.map_toArray, List.map_cons, List.map_nil]); first | done | rfl | (simp only [List.length_drop, List.length_take]; rfl)) ?_; (with_reducible refine (dO.calls t143 t146 _ A4.out).mono ?_); rintro e w' ⟨rfl, ⟨nd, rfl⟩⟩; refine ⟨_, rfl, ?_⟩) | ((with_reducible refine aV (f := 65) rfl ?_); refine cZ (some 23) rfl rfl Try.func65 (by kernel_rfl) rfl #[.int .i64 t144] rfl (by (try simp only [List.map_toArray, List.map_cons, List.map_nil]); first | done | rfl | (simp only [List.length_drop, List.length_take]; rfl)) ?_; (with_reducible refine (dO.calls t144 t147 _ A5.out).mono ?_); rintro e w' ⟨rfl, ⟨nd, rfl⟩⟩; refine ⟨_, rfl, ?_⟩) | ((with_reducible refine aV (f := 64) rfl ?_); refine cZ (some 24) rfl rfl Try.func64 (by kernel_rfl) rfl #[.int .u64 t146, .int .u64 t147] rfl (by (try simp only [List.map_toArray, List.map_cons, List.map_nil]); first | done | rfl | (simp only [List.length_drop, List.length_take]; rfl)) ?_; (with_reducible refine (bits_Mul64.calls t146 t147 t148 t149 _ A6.out).mono ?_); rintro e w' ⟨rfl, ⟨nd, rfl⟩⟩; refine ⟨_, rfl, ?_⟩) | ((with_reducible refine aV (f := 66) rfl ?_); refine cZ (some 57) rfl rfl Try.func66 (by kernel_rfl) rfl #[.int .u64 (t148 / 16777216), .int .u64 (Go.bits .or .u64 (t149 / 16777216) (IntKind.u64.wrap (t148 * 1099511627776))), .bool ((decide (t143 < 0)) != (decide (t144 < 0)))] rfl (by (try simp only [List.map_toArray, List.map_cons, List.map_nil]); first | done | rfl | (simp only [List.length_drop, List.length_take]; rfl)) ?_; (with_reducible refine (bF.calls (t148 / 16777216) (Go.bits .or .u64 (t149 / 16777216) (IntKind.u64.wrap (t148 * 1099511627776))) ((decide (t143 < 0)) != (decide (t144 < 0))) t156 t157 _ A28.out).mono ?_); rintro e w31 ⟨rfl, hb⟩; refine ⟨_, rfl, ?_⟩; have bT := ah.mk (aI (by repeat (first | (with_reducible first | exact HB.out | apply au | apply af | apply ak) | exact HB.out)) hb); clear HB; have HB := bT; clear bT; (try clear hb); (try clear hb2); (try clear hk); (try clear hi)))
       go_ret2
       exact ⟨by first | rfl | (simp [aU, aT] <;> rfl) | (simp [*, aU, aT] <;> rfl), by repeat (first | (with_reducible first | exact HB.out | apply au | apply af | apply ak) | exact HB.out)⟩
     · replace c29 := Bool.eq_false_iff.mpr c29
       subst c29
       have H1 : (some (t156, t157)) = some (r1, r2) := by rw [if_neg (show ¬ (false = true) by decide)] at H; exact H
       clear H
       have H := H1
       clear H1
       simp only [Option.some.injEq, Prod.mk.injEq] at H
       obtain ⟨rfl, rfl⟩ := H
       go_enter Try.func35, Try.ntmps35
       go_wp2_with (first | ((with_reducible refine aV (f := 63) rfl ?_); refine cZ (some 15) rfl rfl Try.func63 (by kernel_rfl) rfl #[.int .i64 a0, .int .i64 a1] rfl (by (try simp only [List.map_toArray, List.map_cons, List.map_nil]); first | done | rfl | (simp only [List.length_drop, List.length_take]; rfl)) ?_; (with_reducible refine (fJ.calls a0 a1 t143 t144 false _ A3.out).mono ?_); rintro e w32 ⟨rfl, hb⟩; refine ⟨_, rfl, ?_⟩; have bT := ah.mk (aI (by repeat (first | (with_reducible first | exact HB.out | apply au | apply af | apply ak) | exact HB.out)) hb); clear HB; have HB := bT; clear bT; (try clear hb); (try clear hb2); (try clear hk); (try clear hi)) | ((with_reducible refine aV (f := 65) rfl ?_); refine cZ (some 21) rfl rfl Try.func65 (by kernel_rfl) rfl #[.int .i64 t143] rfl (by (try simp only [List.map_toArray, List.map_cons, List.map_nil]); first | done | rfl | (simp only [List.length_drop, List.length_take]; rfl)) ?_; (with_reducible refine (dO.calls t143 t146 _ A4.out).mono ?_); rintro e w' ⟨rfl, ⟨nd, rfl⟩⟩; refine ⟨_, rfl, ?_⟩) | ((with_reducible refine aV (f := 65) rfl ?_); refine cZ (some 23) rfl rfl Try.func65 (by kernel_rfl) rfl #[.int .i64 t144] rfl (by (try simp only [List.map_toArray, List.map_cons, List.map_nil]); first | done | rfl | (simp only [List.length_drop, List.length_take]; rfl)) ?_; (with_reducible refine (dO.calls t144 t147 _ A5.out).mono ?_); rintro e w' ⟨rfl, ⟨nd, rfl⟩⟩; refine ⟨_, rfl, ?_⟩) | ((with_reducible refine aV (f := 64) rfl ?_); refine cZ (some 24) rfl rfl Try.func64 (by kernel_rfl) rfl #[.int .u64 t146, .int .u64 t147] rfl (by (try simp only [List.map_toArray, List.map_cons, List.map_nil]); first | done | rfl | (simp only [List.length_drop, List.length_take]; rfl)) ?_; (with_reducible refine (bits_Mul64.calls t146 t147 t148 t149 _ A6.out).mono ?_); rintro e w' ⟨rfl, ⟨nd, rfl⟩⟩; refine ⟨_, rfl, ?_⟩) | ((with_reducible refine aV (f := 66) rfl ?_); refine cZ (some 57) rfl rfl Try.func66 (by kernel_rfl) rfl #[.int .u64 (t148 / 16777216), .int .u64 (Go.bits .or .u64 (t149 / 16777216) (IntKind.u64.wrap (t148 * 1099511627776))), .bool ((decide (t143 < 0)) != (decide (t144 < 0)))] rfl (by (try simp only [List.map_toArray, List.map_cons, List.map_nil]); first | done | rfl | (simp only [List.length_drop, List.length_take]; rfl)) ?_; (with_reducible refine (bF.calls (t148 / 16777216) (Go.bits .or .u64 (t149 / 16777216) (IntKind.u64.wrap (t148 * 1099511627776))) ((decide (t143 < 0)) != (decide (t144 < 0))) t156 t157 _ A28.out).mono ?_); rintro e w33 ⟨rfl, hb⟩; refine ⟨_, rfl, ?_⟩; have bT := ah.mk (aI (by repeat (first | (with_reducible first | exact HB.out | apply au | apply af | apply ak) | exact HB.out)) hb); clear HB; have HB := bT; clear bT; (try clear hb); (try clear hb2); (try clear hk); (try clear hi)))
       go_ret2
       exact ⟨by first | rfl | (simp [aU, aT] <;> rfl) | (simp [*, aU, aT] <;> rfl), by repeat (first | (with_reducible first | exact HB.out | apply au | apply af | apply ak) | exact HB.out)⟩
def bits_LeadingZeros64.f (a0 : Int) : Option (Int) := if 0 ≤ a0 ∧ a0 < 18446744073709551616 then some (64 - (Lib.bitLen a0.toNat : Int)) else none
theorem bits_LeadingZeros64.calls (a0 : Int) (r : Int) (w : World) (h : bits_LeadingZeros64.f a0 = some r) :
 Calls Try.prog 93 #[.int .u64 a0] w fun e w' => e = .returned (.int .i64 r) ∧ dK w w' := by
 unfold bits_LeadingZeros64.f at h
 by_cases hb : 0 ≤ a0 ∧ a0 < 18446744073709551616
 · rw [if_pos hb] at h
   simp only [Option.some.injEq] at h
   subst h
   refine (Try.bits_LeadingZeros64 a0 w hb.1 (by omega)).mono ?_
   rintro e w' ⟨rfl, rfl⟩
   exact ⟨rfl, dK.refl _⟩
 · rw [if_neg hb] at h
   cases h
end Go.Proofs.Ytninmcmajbfccaa.PQ

