import Derived.Test.YtninmcmajbfccaaY2
/- Joined and thinned by a program of this session's own (wip/pack2.py) out of its texts (wip/ of its repo); parts were laid by its own program (wip/print-patch.py over the kit's print) out of the translation; Lean checks all. -/
set_option maxRecDepth 100000
set_option maxHeartbeats 8000000
namespace Go.Proofs.Ytninmcmajbfccaa.PQ
open Go.RowKit Go.Proofs.aH.bK Go.Proofs.aH.dG Go.Proofs.aH.dJ
attribute [local go_sem] jS jQ kT kS ji jh jR jP
set_option linter.unusedVariables false
set_option linter.unusedSimpArgs false
mutual
def bz.j0 : Nat → List Int → Int → Bool → Option (Int × Int × List Int × Int)
 | 0, _, _, _ => none
 | k + 1, x0, x4, x15 => if x15 = true then (some (0, 0, ([] : List Int), 1)) else ((dV.f k x4 x4).bind fun Gu => (bz.l0 k x0 x4 0 Gu.1 Gu.2.1 Gu.2.2))
def bz.l0 : Nat → List Int → Int → Int → Int → Int → List Int → Option (Int × Int × List Int × Int)
 | 0, _, _, _, _, _, _ => none
 | k + 1, x0, x4, x6, OM, OL, IJ => if x6 < x4 then (if 0 ≤ x6 then (if x6 < (x0.length : Int) then ((fC.f (rd x0 x6)).bind fun t228 => (if t228 = true then (if 0 ≤ (wrap64 ((wrap64 (x6 * x4)) + x6)) then (if (wrap64 ((wrap64 (x6 * x4)) + x6)) < (IJ.length : Int) then (bz.l0 k x0 x4 (wrap64 (x6 + 1)) OM OL (IJ.set ((wrap64 ((wrap64 (x6 * x4)) + x6)) : Int).toNat (rd x0 x6))) else (none)) else (none)) else (some (0, 0, ([] : List Int), 1)))) else (none)) else (none)) else (some (OM, OL, IJ, 0))
end
def bz.f (k : Nat) (l0 : List Int) : Option (Int × Int × List Int × Int) := if (l0.length : Int) < 1 then (bz.j0 k l0 (l0.length : Int) true) else (bz.j0 k l0 (l0.length : Int) (decide ((l0.length : Int) > 8)))
def bz.T11 : Bool × List (List Nat × List Nat) := (true, [([], []), ([0], [0]), ([], []), ([], []), ([2, 3], [2, 3]), ([], []), ([4, 5], [4, 5]), ([], []), ([], []), ([7, 8], [7, 8]), ([9], [9]), ([1, 6, 0, 1, 2, 3, 4, 5, 6, 7, 8, 9, 10], [1, 6]), ([11, 10, 0, 1, 2, 3, 4, 5, 6, 7, 8, 9, 10], [10, 11])])
def bz.B11 : List Nat := [0, 1, 0, 0, 12, 0, 60, 0, 0, 384, 896, 2047, 4095]
theorem bz.aaE : qy .any (opsOf Try.f42 11) = bz.T11 := by kernel_rfl
theorem bz.ZE : pM bz.T11.2 bz.B11 = true := by kernel_rfl
theorem bz.calls (k : Nat) (A0 : Option Addr) (c0 : Nat) (l0 : List Int) (r1 : Int) (r2 : Int) (r3 : List Int) (r4 : Int) (w : World) (hr0 : Kd.C (Kd.int .i64) w A0 l0.length l0) (hc0 : l0.length ≤ c0) (h : bz.f k l0 = some (r1, r2, r3, r4)) :
 Calls Try.prog 42 #[.slice A0 l0.length c0] w fun e w' => ∃ wX : Value, e = .returned (.tuple #[.agg #[.int .i64 r1, .int .i64 r2, wX], .int .i64 r4]) ∧ Kd.R (Kd.int .i64) 22 w' w.heap.size (fun _ => True) wX r3 ∧ Below w.heap.size w w' := by
 have yz := Try.underlying26
 have HR0 := ah.mk hr0
 have XX := ah.mk hc0
 clear hr0 hc0
 have HB := ah.mk (Below.refl w.heap.size w)
 have H : (if (l0.length : Int) < 1 then (bz.j0 k l0 (l0.length : Int) true) else (bz.j0 k l0 (l0.length : Int) (decide ((l0.length : Int) > 8)))) = some (r1, r2, r3, r4) := h
 clear h
 have HC2 := ah.mk H
 clear H
 go_enter Try.func42, Try.ntmps42
 go_upto_region 2 with (first | ((with_reducible refine dY (N := 2) rfl ?_); refine dH ?hg (N := 2) ?hd (cs := #[.int .i64 0, .int .i64 0, .slice none 0 0]) (t := 26) ?hr ?_; (case hd => rfl); (case hg => rfl); (case hr => first | (go_simp; done) | (go_simp; rfl)); intro l_ hg w3 hbox hb; have bT := ah.mk (aI (by repeat (first | (with_reducible first | exact HB.out | apply au | apply af | apply ak) | exact HB.out)) hb); have dD := ah.mk (hbox); have dQ := ah.mk ((by rw [hg]; exact (aW (by repeat (first | (with_reducible first | exact HB.out | apply au | apply af | apply ak) | exact HB.out))) : w.heap.size ≤ l_)); have eH := ah.mk ((by rw [hg]; exact (aW (by repeat (first | (with_reducible first | exact HB.out | apply au | apply af | apply ak) | exact HB.out))) : w.heap.size ≤ l_)); clear HB; have HB := bT; have iW := dD; have amq := dQ; have v_ := eH; clear bT dD dQ eH; clear hb hbox hg))
 (try simp only [Act.put, List.setIfInBounds_toArray, List.set_cons_zero, List.set_cons_succ])
 go_cut [15] (fun v15 wc => ∃ (kq : Nat) (kL : Bool), v15 = .bool kL ∧ ah (bz.j0 kq l0 (l0.length : Int) kL = some (r1, r2, r3, r4)) ∧ ah (kq ≤ k) ∧ ah (wc.heap[l_]? = some (.cells #[.int .i64 0, .int .i64 0, (.slice none 0 0)] 26 (0, 0))) ∧ ah (Below w.heap.size w wc))
 case first =>
  have H := HC2.out
  clear HC2
  by_cases c4 : (l0.length : Int) < 1
  · rw [if_pos c4] at H
    have ru : decide ((l0.length : Int) < 1) = true := decide_eq_true c4
    have Gn : decide (l0.length < 1) = true := decide_eq_true (by omega)
    clear c4
    (first | rw [ru] | (simp only [aJ, aK]; rw [ru]) | skip)
    have H' := ah.mk H
    clear H
    go_wp2
    go_meet
    case rel => exact ⟨_, (true), (by first | rfl | (simp; done) | (simp [*]; done)), H', ⟨by first | omega | exact Nat.le_refl _⟩, ⟨by (with_reducible repeat (first | refine ay ?_ _ | refine aC ?_ | refine az ?_ _)); exact iW.out⟩, ⟨by repeat (first | (with_reducible first | exact HB.out | apply au | apply af | apply ak | refine aG ?_ v_.out) | exact HB.out)⟩⟩
  · rw [if_neg c4] at H
    have ru : decide ((l0.length : Int) < 1) = false := decide_eq_false c4
    have Gn : decide (l0.length < 1) = false := decide_eq_false (by omega)
    clear c4
    (first | rw [ru] | (simp only [aJ, aK]; rw [ru]) | skip)
    have H' := ah.mk H
    clear H
    go_wp2
    go_meet
    case rel => exact ⟨_, (decide ((l0.length : Int) > 8)), (by first | rfl | (simp; done) | (simp [*]; done)), H', ⟨by first | omega | exact Nat.le_refl _⟩, ⟨by (with_reducible repeat (first | refine ay ?_ _ | refine aC ?_ | refine az ?_ _)); exact iW.out⟩, ⟨by repeat (first | (with_reducible first | exact HB.out | apply au | apply af | apply ak | refine aG ?_ v_.out) | exact HB.out)⟩⟩
 case rest =>
  clear HC2
  try clear p2
  try clear c4
  try clear ru
  try clear Gn
  obtain ⟨kq, kL, rfl, HA, YH, iW, HB⟩ := hcut
  cases kq with
  | zero => exact absurd HA.out (by simp [bz.j0])
  | succ OZ =>
    have H := HA.out
    clear HA
    simp only [bz.j0] at H
    by_cases c5 : kL = true
    · subst c5
      rw [if_pos rfl] at H
      simp only [Option.some.injEq, Prod.mk.injEq] at H
      obtain ⟨rfl, rfl, rfl, rfl⟩ := H
      have tu : wc.cell? ⟨l_, 0, none⟩ = some (.int .i64 0) := (aj iW.out 0).trans rfl
      have tq : wc.cell? ⟨l_, 1, none⟩ = some (.int .i64 0) := (aj iW.out 1).trans rfl
      have uK : wc.cell? ⟨l_, 2, none⟩ = some (.slice none 0 0) := (aj iW.out 2).trans rfl
      have sV := aA iW.out 0
      have sU := aA iW.out 1
      have uJ := aA iW.out 2
      go_wp2
      refine bodyPost_ret (lQ rfl _ _ l_ 26 #[.int .i64 0, .int .i64 0, .slice none 0 0] (0, 0) _ rfl (by (with_reducible repeat (first | refine ay ?_ _ | refine aC ?_ | refine az ?_ _)); refine bQ (cs := #[.int .i64 0, .int .i64 0, .slice none 0 0]) ?_ 2 _ rfl; (with_reducible repeat (first | refine ay ?_ _ | refine aC ?_ | refine az ?_ _)); refine bQ (cs := #[.int .i64 0, .int .i64 0, .slice none 0 0]) ?_ 1 _ rfl; (with_reducible repeat (first | refine ay ?_ _ | refine aC ?_ | refine az ?_ _)); refine bQ (cs := #[.int .i64 0, .int .i64 0, .slice none 0 0]) ?_ 0 _ rfl; (with_reducible repeat (first | refine ay ?_ _ | refine aC ?_ | refine az ?_ _)); exact iW.out) Try.underlying26 rfl (by kernel_rfl)) rfl ?_
      exact ⟨_, by first | rfl | (simp [aU, aT] <;> rfl) | (simp [*, aU, aT] <;> rfl), by first | exact Kd.qV _ _ _ _ _ | exact Kd.vV _ _ _ _ _ | exact Kd.vP _ _ _ _ _ | exact Kd.vU _ _ _ _ _ | exact Kd.vS _ _ _ _ _, by repeat (first | (with_reducible first | exact HB.out | apply au | apply af | apply ak | refine aG ?_ v_.out) | exact HB.out)⟩
    · replace c5 := Bool.eq_false_iff.mpr c5
      subst c5
      have H1 : ((dV.f OZ (l0.length : Int) (l0.length : Int)).bind fun Gu => (bz.l0 OZ l0 (l0.length : Int) 0 Gu.1 Gu.2.1 Gu.2.2)) = some (r1, r2, r3, r4) := by rw [if_neg (show ¬ (false = true) by decide)] at H; exact H
      clear H
      have H := H1
      clear H1
      replace H := Option.bind_eq_some_iff.mp H
      obtain ⟨⟨t221, t222, t223⟩, UZ, H⟩ := H
      replace H : (bz.l0 OZ l0 (l0.length : Int) 0 t221 t222 t223) = some (r1, r2, r3, r4) := H
      have A7 := ah.mk UZ
      clear UZ
      have H' := ah.mk H
      clear H
      go_wp2_with (first | ((with_reducible refine aV (f := 16) rfl ?_); refine cZ (some 19) rfl rfl Try.func16 (by kernel_rfl) rfl #[.int .i64 (l0.length : Int), .int .i64 (l0.length : Int)] rfl (by (try simp only [List.map_toArray, List.map_cons, List.map_nil]); first | done | rfl | (simp only [List.length_drop, List.length_take]; rfl)) ?_; (with_reducible refine (dV.calls OZ (l0.length : Int) (l0.length : Int) t221 t222 t223 _ A7.out).mono ?_); rintro e w8 ⟨am9, rfl, ho0, hb⟩; refine ⟨_, rfl, ?_⟩; have bT := ah.mk (Kd.jG ho0 (aW (by repeat (first | (with_reducible first | exact HB.out | apply au | apply af | apply ak | refine aG ?_ v_.out) | exact HB.out)))); have dD := ah.mk (bg (g := l_) (o := .cells #[.int .i64 0, .int .i64 0, .slice none 0 0] 26 (0, 0)) (by (with_reducible repeat (first | refine ay ?_ _ | refine aC ?_ | refine az ?_ _)); exact iW.out) hb); have dQ := ah.mk (aI (by repeat (first | (with_reducible first | exact HB.out | apply au | apply af | apply ak | refine aG ?_ v_.out) | exact HB.out)) hb); clear iW; clear HB; have L9 := bT; have iW := dD; have HB := dQ; clear bT dD dQ; (try clear hb); (try clear hb2); (try clear hk); (try clear hi); (try clear ho0)) | ((with_reducible refine dY (N := 5) rfl ?_); refine dH ?hg (N := 5) ?hd (cs := #[.int .i64 0, .int .i64 0, .slice none 0 0]) (t := 26) ?hr ?_; (case hd => rfl); (case hg => rfl); (case hr => first | (go_simp; done) | (go_simp; rfl)); intro qG hg w9 hbox hb; have bT := ah.mk (Kd.iO (by (with_reducible repeat (first | apply Kd.bZ | apply Kd.bY | apply Kd.dA)); exact L9.out) hb); have dD := ah.mk (bg (g := l_) (o := .cells #[.int .i64 0, .int .i64 0, .slice none 0 0] 26 (0, 0)) (by (with_reducible repeat (first | refine ay ?_ _ | refine aC ?_ | refine az ?_ _)); exact iW.out) hb); have dQ := ah.mk (aI (by repeat (first | (with_reducible first | exact HB.out | apply au | apply af | apply ak | refine aG ?_ v_.out) | exact HB.out)) hb); have eH := ah.mk (hbox); have iw := ah.mk ((by rw [hg]; exact (aW (by repeat (first | (with_reducible first | exact HB.out | apply au | apply af | apply ak | refine aG ?_ v_.out) | exact HB.out))) : w.heap.size ≤ qG)); have iQ := ah.mk ((by rw [hg]; exact (aW (by repeat (first | (with_reducible first | exact HB.out | apply au | apply af | apply ak | refine aG ?_ v_.out) | exact HB.out))) : w.heap.size ≤ qG)); have jk := ah.mk ((by rw [hg]; exact Nat.ne_of_lt (dP (g := l_) (o := .cells #[.int .i64 0, .int .i64 0, .slice none 0 0] 26 (0, 0)) (by (with_reducible repeat (first | refine ay ?_ _ | refine aC ?_ | refine az ?_ _)); exact iW.out)) : l_ ≠ qG)); have mQ := ah.mk ((by rw [hg]; exact Nat.ne_of_gt (dP (g := l_) (o := .cells #[.int .i64 0, .int .i64 0, .slice none 0 0] 26 (0, 0)) (by (with_reducible repeat (first | refine ay ?_ _ | refine aC ?_ | refine az ?_ _)); exact iW.out)) : qG ≠ l_)); clear L9; clear iW; clear HB; have L9 := bT; have iW := dD; have HB := dQ; have lg := eH; have amo := iw; have IB := iQ; have uy := jk; have Dk := mQ; clear bT dD dQ eH iw iQ jk mQ; clear hb hbox hg; have Pj := Dk.out; have Pg := uy.out; have vJ : w9.cell? ⟨qG, 0, none⟩ = some (.int .i64 0) := (aj lg.out 0).trans rfl; have vI : w9.cell? ⟨qG, 1, none⟩ = some (.int .i64 0) := (aj lg.out 1).trans rfl; have vH : w9.cell? ⟨qG, 2, none⟩ = some (.slice none 0 0) := (aj lg.out 2).trans rfl; have vG := aA lg.out 0; have vF := aA lg.out 1; have vC := aA lg.out 2; obtain ⟨MB, LP, Ua⟩ := Kd.iq L9.out; subst Ua))
      go_loopg [6] OZ (fun kq v6 w' => ∃ (iL : Int) (oJ : Int) (lX : Int) (jw : List Int) (uX : Value), v6 = .int .i64 iL ∧ ah (bz.l0 kq l0 (l0.length : Int) iL t221 t222 jw = some (r1, r2, r3, r4)) ∧ ah (kq ≤ OZ) ∧ ah (Kd.R (Kd.int .i64) 22 w' w.heap.size (fun _ => True) uX jw) ∧ ah (w'.heap[l_]? = some (.cells #[.int .i64 oJ, .int .i64 lX, (.slice none 0 0)] 26 (0, 0))) ∧ ah (w'.heap[qG]? = some (.cells #[.int .i64 t221, .int .i64 t222, uX] 26 (0, 0))) ∧ ah (Below w.heap.size w w'))
      case atStart => exact ⟨(0), (0), (0), (t223), (.slice MB t223.length LP), (by first | rfl | (simp; done) | (simp [*]; done)), H', ⟨Nat.le_refl _⟩, ⟨by (with_reducible repeat (first | apply Kd.bZ | apply Kd.bY | apply Kd.dA)); exact Kd.fQ (Kd.dM (p := ⟨qG, 2, none⟩) (Kd.dM (p := ⟨qG, 1, none⟩) (Kd.dM (p := ⟨qG, 0, none⟩) (Kd.iM L9.out lg.out (by decide)) (fun _ hk => hk.2) (.int .i64 t221)) (fun _ hk => hk.2) (.int .i64 t222)) (fun _ hk => hk.2) (.slice MB t223.length LP)) (fun _ hk => trivial)⟩, ⟨by (with_reducible repeat (first | refine ay ?_ _ | refine aC ?_ | refine az ?_ _)); refine dL ?_ uy.out _; (with_reducible repeat (first | refine ay ?_ _ | refine aC ?_ | refine az ?_ _)); refine dL ?_ uy.out _; (with_reducible repeat (first | refine ay ?_ _ | refine aC ?_ | refine az ?_ _)); refine dL ?_ uy.out _; (with_reducible repeat (first | refine ay ?_ _ | refine aC ?_ | refine az ?_ _)); exact iW.out⟩, ⟨by (with_reducible repeat (first | refine ay ?_ _ | refine aC ?_ | refine az ?_ _)); refine bQ (cs := #[.int .i64 t221, .int .i64 t222, .slice none 0 0]) ?_ 2 _ rfl; (with_reducible repeat (first | refine ay ?_ _ | refine aC ?_ | refine az ?_ _)); refine bQ (cs := #[.int .i64 t221, .int .i64 0, .slice none 0 0]) ?_ 1 _ rfl; (with_reducible repeat (first | refine ay ?_ _ | refine aC ?_ | refine az ?_ _)); refine bQ (cs := #[.int .i64 0, .int .i64 0, .slice none 0 0]) ?_ 0 _ rfl; (with_reducible repeat (first | refine ay ?_ _ | refine aC ?_ | refine az ?_ _)); exact lg.out⟩, ⟨by repeat (first | (with_reducible first | exact HB.out | apply au | apply af | apply ak | refine aG ?_ v_.out | refine aG ?_ IB.out) | exact HB.out)⟩⟩
      case round =>
       clear H'
       try clear c1
       try clear p2
       try clear c4
       try clear ru
       try clear Gn
       try clear c5
       try clear c10
       try clear vJ
       try clear vI
       try clear vH
       try clear tu
       try clear tq
       try clear uK
       try clear vG
       try clear vF
       try clear vC
       try clear sV
       try clear sU
       try clear uJ
       try clear p2
       obtain ⟨iL, oJ, lX, jw, uX, rfl, HA, yN, jC, iW, lg, HB⟩ := hrel
       cases gk with
       | zero => exact absurd HA.out (by simp [bz.l0])
       | succ k2 =>
         have H := HA.out
         clear HA
         simp only [bz.l0] at H
         by_cases c13 : iL < (l0.length : Int)
         · rw [if_pos c13] at H
           have tN : decide (iL < (l0.length : Int)) = true := decide_eq_true c13
           clear c13
           by_cases c14 : 0 ≤ iL
           · rw [if_pos c14] at H
             have oQ : decide (0 ≤ iL) = true := decide_eq_true c14
             clear c14
             by_cases c15 : iL < (l0.length : Int)
             · rw [if_pos c15] at H
               have Gp : decide (iL < (l0.length : Int)) = true := decide_eq_true c15
               clear c15
               replace H := Option.bind_eq_some_iff.mp H
               obtain ⟨t228, GK, H⟩ := H
               replace H : (if t228 = true then (if 0 ≤ (wrap64 ((wrap64 (iL * (l0.length : Int))) + iL)) then (if (wrap64 ((wrap64 (iL * (l0.length : Int))) + iL)) < (jw.length : Int) then (bz.l0 k2 l0 (l0.length : Int) (wrap64 (iL + 1)) t221 t222 (jw.set ((wrap64 ((wrap64 (iL * (l0.length : Int))) + iL)) : Int).toNat (rd l0 iL))) else (none)) else (none)) else (some (0, 0, ([] : List Int), 1))) = some (r1, r2, r3, r4) := H
               have J3 := ah.mk GK
               clear GK
               by_cases c17 : t228 = true
               · subst c17
                 rw [if_pos rfl] at H
                 obtain ⟨Ci, Pv⟩ : ∃ j_ : Int, (wrap64 ((wrap64 (iL * (l0.length : Int))) + iL)) = j_ := ⟨_, rfl⟩
                 replace H : (if 0 ≤ (Ci) then (if (Ci) < (jw.length : Int) then (bz.l0 k2 l0 (l0.length : Int) (wrap64 (iL + 1)) t221 t222 (jw.set ((Ci) : Int).toNat (rd l0 iL))) else (none)) else (none)) = some (r1, r2, r3, r4) := by first | (rw [Pv] at H; exact H) | (simp only [Pv] at H ⊢; exact H)
                 (try rw [Pv] at J3)
                 have aim : (IntKind.i64.wrap ((wrap64 (iL * (l0.length : Int))) + iL)) = Ci := (aJ _).trans Pv
                 by_cases c19 : 0 ≤ (Ci)
                 · rw [if_pos c19] at H
                   have LV : decide (0 ≤ (Ci)) = true := decide_eq_true c19
                   clear c19
                   by_cases c20 : (Ci) < (jw.length : Int)
                   · rw [if_pos c20] at H
                     have Qn : decide ((Ci) < (jw.length : Int)) = true := decide_eq_true c20
                     clear c20
                     obtain ⟨aay, KZ⟩ : ∃ y_ : List Int, y_ = (jw.set ((Ci) : Int).toNat (rd l0 iL)) := ⟨_, rfl⟩
                     replace H : (bz.l0 k2 l0 (l0.length : Int) (wrap64 (iL + 1)) t221 t222 aay) = some (r1, r2, r3, r4) := by first | (rw [KZ]; with_reducible exact H) | (have Dt := (Option.bind_some _ _).symm.trans H; rw [KZ]; with_reducible exact Dt) | (have Dt := (Option.bind_some _ _).symm.trans H; with_reducible exact Dt) | with_reducible exact H | (rw [KZ]; exact H) | exact H
                     have acC := ah.mk KZ
                     clear KZ
                     have H' := ah.mk H
                     clear H
                     have Ny : 0 ≤ (iL : Int) := of_decide_eq_true (by first | (with_reducible assumption) | assumption)
                     have Nc : iL < (l0.length : Int) := of_decide_eq_true (by first | (with_reducible assumption) | assumption)
                     obtain ⟨Uw, e227, xh⟩ := Kd.jv HR0.out iL Ny Nc
                     cases e227
                     replace xh := (HB.out.cell (World.block_lt_of_cell? w _ xh)).trans xh
                     replace Ny := eq_true Ny
                     replace Nc := eq_true Nc
                     try go_wp2_with (first | ((with_reducible refine aV (f := 37) rfl ?_); refine cZ (some 29) rfl rfl Try.func37 (by kernel_rfl) rfl #[.int .i64 (rd l0 iL)] rfl (by (try simp only [List.map_toArray, List.map_cons, List.map_nil]); first | done | rfl | (simp only [List.length_drop, List.length_take]; rfl)) ?_; (with_reducible refine (fC.calls (rd l0 iL) true _ J3.out).mono ?_); rintro e w' ⟨rfl, ⟨nd, rfl⟩⟩; refine ⟨_, rfl, ?_⟩; (try (rw [xA wr]; generalize Fp : World.drewN wr _ = wr; have bT : ah (Kd.R (Kd.int .i64) 22 wr w.heap.size (fun _ => True) uX jw) := ⟨by rw [← Fp]; exact (by (with_reducible repeat (first | apply Kd.bZ | apply Kd.bY | apply Kd.dA)); exact jC.out)⟩; have dD : ah (wr.heap[l_]? = some (.cells #[.int .i64 oJ, .int .i64 lX, .slice none 0 0] 26 (0, 0))) := ⟨by rw [← Fp]; exact (by (with_reducible repeat (first | refine ay ?_ _ | refine aC ?_ | refine az ?_ _)); exact iW.out)⟩; have dQ : ah (wr.heap[qG]? = some (.cells #[.int .i64 t221, .int .i64 t222, uX] 26 (0, 0))) := ⟨by rw [← Fp]; exact (by (with_reducible repeat (first | refine ay ?_ _ | refine aC ?_ | refine az ?_ _)); exact lg.out)⟩; have eH : ah (Below w.heap.size w wr) := ⟨by rw [← Fp]; exact (by repeat (first | (with_reducible first | exact HB.out | apply au | apply af | apply ak | refine aG ?_ v_.out | refine aG ?_ IB.out) | exact HB.out))⟩; clear jC iW lg HB Fp; have jC := bT; have iW := dD; have lg := dQ; have HB := eH; clear bT dD dQ eH))))
                     have bT := ah.mk (Kd.dA jC.out)
                     have dD := ah.mk (aC iW.out)
                     have dQ := ah.mk (aC lg.out)
                     have eH := ah.mk (ak HB.out)
                     clear jC
                     clear iW
                     clear lg
                     clear HB
                     have jC := bT
                     have iW := dD
                     have lg := dQ
                     have HB := eH
                     clear bT dD dQ eH
                     have Y2 : 0 ≤ (iL : Int) := of_decide_eq_true (by first | (with_reducible assumption) | assumption)
                     have YX : iL < (l0.length : Int) := of_decide_eq_true (by first | (with_reducible assumption) | assumption)
                     obtain ⟨abV, e229, Be⟩ := Kd.jv HR0.out iL Y2 YX
                     have O_ := Be
                     obtain rfl : Uw = abV := (by injection e229)
                     replace Be := (HB.out.cell (World.block_lt_of_cell? w _ Be)).trans Be
                     replace Y2 := eq_true Y2
                     replace YX := eq_true YX
                     have p21 : 0 ≤ ((Ci) : Int) := of_decide_eq_true (by first | (with_reducible assumption) | assumption)
                     have q21 : ((Ci) : Int) < ((jw.length : Int) : Int) := of_decide_eq_true (by first | (with_reducible assumption) | assumption)
                     obtain ⟨abj, abB, abu, abl, aiO, aop, ac2⟩ := Kd.JV jC.out (by omega)
                     (first | cases abu | (injection abu with JI Zq Zr; (first | subst JI | (injection JI with JI; subst JI)); subst Zr; clear Zq))
                     have ajP := ah.mk abl
                     have ajN := ah.mk ac2
                     clear abl aiO ac2
                     obtain ⟨Zc, Zi⟩ := Kd.EN 0 jC.out ((Ci) : Int) p21 q21
                     replace p21 := eq_true p21
                     replace q21 := eq_true q21
                     have Ox := Kd.Ot jC.out ((Ci) : Int) (rd l0 iL)
                     rw [← acC.out] at Ox
                     have acX := ah.mk Ox
                     clear Ox
                     refine oV (n := 13) (S := fun w' => w'.cell? ⟨qG, 0, none⟩ = some (.int .i64 t221) ∧ w'.cell? ⟨qG, 1, none⟩ = some (.int .i64 t222) ∧ w'.cell? ⟨qG, 2, none⟩ = some (.slice (some ⟨abj, 0, none⟩) jw.length abB) ∧ w'.cell? (Uw.add (iL).toNat) = some (.int .i64 (rd l0 iL))) (ds := [12]) #[false, false, false, false, false, false, false, false, false, false, false, false, false] (by kernel_rfl) rfl rfl ⟨(aj lg.out 0).trans rfl, (aj lg.out 1).trans rfl, (aj lg.out 2).trans rfl, ((HB.out.cell (World.block_lt_of_cell? w _ O_)).trans O_)⟩ (fun hHeld => ?_); refine jJ bz.aaE bz.ZE (fun dF pI => ?_)
                     generalize wr.drew = w22 at jC iW lg HB ajN acX Zi Zc Be hHeld ⊢
                     refine bf (i := 0) (N := some 33) (v := ?_) (a' := ?_) #[true, false, false, false, false, false, false, false, false, false, false, false, false] rfl rfl (aN dF.out (by kernel_rfl)) (fun _ _ _ h => h) (Or.inl ⟨by rfl, ?_⟩) ?_ ?_
                     rotate_left
                     · intro w'
                       go_simp
                       with_reducible rfl
                     rotate_left
                     · simp only [Act.put, List.setIfInBounds_toArray, List.set_cons_zero, List.set_cons_succ, aJ, aK]
                       rfl
                     refine bf (i := 2) (N := some 35) (v := ?_) (a' := ?_) #[true, false, true, false, false, false, false, false, false, false, false, false, false] rfl rfl (aN dF.out (by kernel_rfl)) (fun _ _ _ h => h) (Or.inl ⟨by rfl, ?_⟩) ?_ ?_
                     rotate_left
                     · intro w'
                       go_simp
                       with_reducible rfl
                     rotate_left
                     · simp only [Act.put, List.setIfInBounds_toArray, List.set_cons_zero, List.set_cons_succ, aJ, aK]
                       rfl
                     refine bf (i := 3) (N := some 36) (v := ?_) (a' := ?_) #[true, false, true, true, false, false, false, false, false, false, false, false, false] rfl rfl (aN dF.out (by kernel_rfl)) (fun _ _ _ h => h) (Or.inl ⟨by rfl, ?_⟩) ?_ ?_
                     rotate_left
                     · intro w'
                       go_simp
                       with_reducible rfl
                     rotate_left
                     · simp only [Act.put, List.setIfInBounds_toArray, List.set_cons_zero, List.set_cons_succ, aJ, aK]
                       rfl
                     refine bf (i := 4) (N := some 37) (v := ?_) (a' := ?_) #[true, false, true, true, true, false, false, false, false, false, false, false, false] rfl rfl (aN dF.out (by kernel_rfl)) (fun _ _ _ h => h) (Or.inl ⟨by rfl, ?_⟩) ?_ ?_
                     rotate_left
                     · intro w'
                       go_simp
                       with_reducible rfl
                     rotate_left
                     · simp only [Act.put, List.setIfInBounds_toArray, List.set_cons_zero, List.set_cons_succ, aJ, aK]
                       rfl
                     refine bf (i := 5) (N := some 38) (v := ?_) (a' := ?_) #[true, false, true, true, true, true, false, false, false, false, false, false, false] rfl rfl (aN dF.out (by kernel_rfl)) (fun _ _ _ h => h) (Or.inl ⟨by rfl, ?_⟩) ?_ ?_
                     rotate_left
                     · intro w'
                       go_simp
                       with_reducible rfl
                     rotate_left
                     · simp only [Act.put, List.setIfInBounds_toArray, List.set_cons_zero, List.set_cons_succ, aJ, aK]
                       rfl
                     refine bf (i := 6) (N := some 39) (v := ?_) (a' := ?_) #[true, false, true, true, true, true, true, false, false, false, false, false, false] rfl rfl (aN dF.out (by kernel_rfl)) (fun _ _ _ h => h) (Or.inl ⟨by rfl, ?_⟩) ?_ ?_
                     rotate_left
                     · intro w'
                       go_simp
                       with_reducible rfl
                     rotate_left
                     · simp only [Act.put, List.setIfInBounds_toArray, List.set_cons_zero, List.set_cons_succ, aJ, aK]
                       rfl
                     refine bf (i := 7) (N := some 40) (v := ?_) (a' := ?_) #[true, false, true, true, true, true, true, true, false, false, false, false, false] rfl rfl (aN dF.out (by kernel_rfl)) (fun _ _ _ h => h) (Or.inl ⟨by rfl, ?_⟩) ?_ ?_
                     rotate_left
                     · intro w'
                       go_simp
                       with_reducible rfl
                     rotate_left
                     · simp only [Act.put, List.setIfInBounds_toArray, List.set_cons_zero, List.set_cons_succ, aJ, aK]
                       rfl
                     refine bf (i := 8) (N := some 41) (v := ?_) (a' := ?_) #[true, false, true, true, true, true, true, true, true, false, false, false, false] rfl rfl (aN dF.out (by kernel_rfl)) (fun _ _ _ h => h) (Or.inl ⟨by rfl, ?_⟩) ?_ ?_
                     rotate_left
                     · intro w'
                       go_simp
                       with_reducible rfl
                     rotate_left
                     · simp only [Act.put, List.setIfInBounds_toArray, List.set_cons_zero, List.set_cons_succ, aJ, aK]
                       rfl
                     refine bf (i := 9) (N := some 42) (v := ?_) (a' := ?_) #[true, false, true, true, true, true, true, true, true, true, false, false, false] rfl rfl (aN dF.out (by kernel_rfl)) (fun _ _ _ h => h) (Or.inl ⟨by rfl, ?_⟩) ?_ ?_
                     rotate_left
                     · intro w'
                       go_simp
                       with_reducible rfl
                     rotate_left
                     · simp only [Act.put, List.setIfInBounds_toArray, List.set_cons_zero, List.set_cons_succ, aJ, aK]
                       rfl
                     refine iP (i := 1) (N := some 34) (v := ?_) (a' := ?_) #[true, true, true, true, true, true, true, true, true, true, false, false, false] rfl rfl (eF dF.out pI.out (by kernel_rfl)) (fun _ _ _ h => h) (Or.inl ⟨by rfl, ?_⟩) hHeld ?_ ?_
                     rotate_left
                     · rintro w' ⟨s0, s1, s2, s3⟩
                       go_simp
                       with_reducible rfl
                     rotate_left
                     · simp only [Act.put, List.setIfInBounds_toArray, List.set_cons_zero, List.set_cons_succ, aJ, aK]
                       rfl
                     refine iP (i := 10) (N := some 43) (v := ?_) (a' := ?_) #[true, true, true, true, true, true, true, true, true, true, true, false, false] rfl rfl (eF dF.out pI.out (by kernel_rfl)) (fun _ _ _ h => h) (Or.inl ⟨by rfl, ?_⟩) hHeld ?_ ?_
                     rotate_left
                     · rintro w' ⟨s0, s1, s2, s3⟩
                       go_simp
                       with_reducible rfl
                     rotate_left
                     · simp only [Act.put, List.setIfInBounds_toArray, List.set_cons_zero, List.set_cons_succ, aJ, aK]
                       rfl
                     refine bf (i := 11) (N := some 44) (v := ?_) (a' := ?_) #[true, true, true, true, true, true, true, true, true, true, true, true, false] rfl rfl (aN dF.out (by kernel_rfl)) (fun _ _ _ h => h) (Or.inl ⟨by rfl, ?_⟩) ?_ ?_
                     rotate_left
                     · intro w'
                       go_simp
                       with_reducible rfl
                     rotate_left
                     · simp only [Act.put, List.setIfInBounds_toArray, List.set_cons_zero, List.set_cons_succ, aJ, aK]
                       rfl
                     refine TA (i := 12) (N := none) #[true, true, true, true, true, true, true, true, true, true, true, true, true] rfl rfl (iF dF.out (by kernel_rfl)) (by decide) (fun K hK => ?_)
                     refine Du (w1 := ?_) (by rfl) rfl ?_ ?_
                     rotate_left
                     · go_simp
                       rfl
                     refine hK.out _ _ ?_
                     clear hK K
                     refine tJ (lW dF.out (by kernel_rfl)) ?_
                     try go_wp2
                     go_roundg k2
                     case measure => have := YH.out; have := yN.out; omega
                     case rel => exact ⟨(wrap64 (iL + 1)), (oJ), (lX), (aay), (.slice (some ⟨abj, 0, none⟩) jw.length abB), (by first | rfl | (simp; done) | (simp [*]; done)), H', ⟨by have := YH.out; have := yN.out; omega⟩, ⟨by (with_reducible repeat (first | apply Kd.bZ | apply Kd.bY | apply Kd.dA)); exact acX.out⟩, ⟨by (with_reducible repeat (first | refine ay ?_ _ | refine aC ?_ | refine az ?_ _)); refine dL ?_ (by have h_ := Kd.wO jC.out iW.out (by decide); intro e_; exact h_ (by rw [e_]; rfl)) _; (with_reducible repeat (first | refine ay ?_ _ | refine aC ?_ | refine az ?_ _)); exact iW.out⟩, ⟨by (with_reducible repeat (first | refine ay ?_ _ | refine aC ?_ | refine az ?_ _)); refine dL ?_ (by have h_ := Kd.wO jC.out lg.out (by decide); intro e_; exact h_ (by rw [e_]; rfl)) _; (with_reducible repeat (first | refine ay ?_ _ | refine aC ?_ | refine az ?_ _)); exact lg.out⟩, ⟨by repeat (first | (with_reducible first | exact HB.out | apply au | apply af | apply ak | refine aG ?_ ajP.out | refine aG ?_ v_.out | refine aG ?_ IB.out) | exact HB.out)⟩⟩
                   · rw [if_neg c20] at H
                     exact absurd H (by simp)
                 · rw [if_neg c19] at H
                   exact absurd H (by simp)
               · replace c17 := Bool.eq_false_iff.mpr c17
                 subst c17
                 have H1 : (some (0, 0, ([] : List Int), 1)) = some (r1, r2, r3, r4) := by rw [if_neg (show ¬ (false = true) by decide)] at H; exact H
                 clear H
                 have H := H1
                 clear H1
                 simp only [Option.some.injEq, Prod.mk.injEq] at H
                 obtain ⟨rfl, rfl, rfl, rfl⟩ := H
                 have Ny : 0 ≤ (iL : Int) := of_decide_eq_true (by first | (with_reducible assumption) | assumption)
                 have Nc : iL < (l0.length : Int) := of_decide_eq_true (by first | (with_reducible assumption) | assumption)
                 obtain ⟨Uw, e227, xh⟩ := Kd.jv HR0.out iL Ny Nc
                 cases e227
                 replace xh := (HB.out.cell (World.block_lt_of_cell? w _ xh)).trans xh
                 replace Ny := eq_true Ny
                 replace Nc := eq_true Nc
                 go_wp2_with (first | ((with_reducible refine aV (f := 37) rfl ?_); refine cZ (some 29) rfl rfl Try.func37 (by kernel_rfl) rfl #[.int .i64 (rd l0 iL)] rfl (by (try simp only [List.map_toArray, List.map_cons, List.map_nil]); first | done | rfl | (simp only [List.length_drop, List.length_take]; rfl)) ?_; (with_reducible refine (fC.calls (rd l0 iL) false _ J3.out).mono ?_); rintro e w' ⟨rfl, ⟨nd, rfl⟩⟩; refine ⟨_, rfl, ?_⟩; (try (rw [xA wr]; generalize Fp : World.drewN wr _ = wr; have bT : ah (Kd.R (Kd.int .i64) 22 wr w.heap.size (fun _ => True) uX jw) := ⟨by rw [← Fp]; exact (by (with_reducible repeat (first | apply Kd.bZ | apply Kd.bY | apply Kd.dA)); exact jC.out)⟩; have dD : ah (wr.heap[l_]? = some (.cells #[.int .i64 oJ, .int .i64 lX, .slice none 0 0] 26 (0, 0))) := ⟨by rw [← Fp]; exact (by (with_reducible repeat (first | refine ay ?_ _ | refine aC ?_ | refine az ?_ _)); exact iW.out)⟩; have dQ : ah (wr.heap[qG]? = some (.cells #[.int .i64 t221, .int .i64 t222, uX] 26 (0, 0))) := ⟨by rw [← Fp]; exact (by (with_reducible repeat (first | refine ay ?_ _ | refine aC ?_ | refine az ?_ _)); exact lg.out)⟩; have eH : ah (Below w.heap.size w wr) := ⟨by rw [← Fp]; exact (by repeat (first | (with_reducible first | exact HB.out | apply au | apply af | apply ak | refine aG ?_ v_.out | refine aG ?_ IB.out) | exact HB.out))⟩; clear jC iW lg HB Fp; have jC := bT; have iW := dD; have lg := dQ; have HB := eH; clear bT dD dQ eH)); have akG := uy.out; have akp := Dk.out; have P7 : wr.cell? ⟨l_, 0, none⟩ = some (.int .i64 oJ) := (aj iW.out 0).trans rfl; have P6 : wr.cell? ⟨l_, 1, none⟩ = some (.int .i64 lX) := (aj iW.out 1).trans rfl; have P5 : wr.cell? ⟨l_, 2, none⟩ = some (.slice none 0 0) := (aj iW.out 2).trans rfl; have PG := aA iW.out 0; have PE := aA iW.out 1; have PD := aA iW.out 2))
                 refine bodyPost_ret (lQ rfl _ _ l_ 26 #[.int .i64 0, .int .i64 0, .slice none 0 0] (0, 0) _ rfl (by (with_reducible repeat (first | refine ay ?_ _ | refine aC ?_ | refine az ?_ _)); refine bQ (cs := #[.int .i64 0, .int .i64 0, .slice none 0 0]) ?_ 2 _ rfl; (with_reducible repeat (first | refine ay ?_ _ | refine aC ?_ | refine az ?_ _)); refine bQ (cs := #[.int .i64 0, .int .i64 lX, .slice none 0 0]) ?_ 1 _ rfl; (with_reducible repeat (first | refine ay ?_ _ | refine aC ?_ | refine az ?_ _)); refine bQ (cs := #[.int .i64 oJ, .int .i64 lX, .slice none 0 0]) ?_ 0 _ rfl; (with_reducible repeat (first | refine ay ?_ _ | refine aC ?_ | refine az ?_ _)); exact iW.out) Try.underlying26 rfl (by kernel_rfl)) rfl ?_
                 exact ⟨_, by first | rfl | (simp [aU, aT] <;> rfl) | (simp [*, aU, aT] <;> rfl), by first | exact Kd.qV _ _ _ _ _ | exact Kd.vV _ _ _ _ _ | exact Kd.vP _ _ _ _ _ | exact Kd.vU _ _ _ _ _ | exact Kd.vS _ _ _ _ _, by repeat (first | (with_reducible first | exact HB.out | apply au | apply af | apply ak | refine aG ?_ v_.out | refine aG ?_ IB.out) | exact HB.out)⟩
             · rw [if_neg c15] at H
               exact absurd H (by simp)
           · rw [if_neg c14] at H
             exact absurd H (by simp)
         · rw [if_neg c13] at H
           have tN : decide (iL < (l0.length : Int)) = false := decide_eq_false c13
           clear c13
           simp only [Option.some.injEq, Prod.mk.injEq] at H
           obtain ⟨rfl, rfl, rfl, rfl⟩ := H
           have aa5 := Dk.out
           have aaX := uy.out
           have PZ : wr.cell? ⟨qG, 0, none⟩ = some (.int .i64 t221) := (aj lg.out 0).trans rfl
           have PY : wr.cell? ⟨qG, 1, none⟩ = some (.int .i64 t222) := (aj lg.out 1).trans rfl
           have PX : wr.cell? ⟨qG, 2, none⟩ = some (uX) := (aj lg.out 2).trans rfl
           have Pz := aA lg.out 0
           have Py := aA lg.out 1
           have Px := aA lg.out 2
           have ahf : wr.cell? ⟨l_, 0, none⟩ = some (.int .i64 oJ) := (aj iW.out 0).trans rfl
           have ahe : wr.cell? ⟨l_, 1, none⟩ = some (.int .i64 lX) := (aj iW.out 1).trans rfl
           have ahd : wr.cell? ⟨l_, 2, none⟩ = some (.slice none 0 0) := (aj iW.out 2).trans rfl
           have afY := aA iW.out 0
           have afX := aA iW.out 1
           have afW := aA iW.out 2
           obtain ⟨adl, abz, aiS⟩ := Kd.iq jC.out
           subst aiS
           go_wp2
           refine bodyPost_ret (lQ rfl _ _ l_ 26 #[.int .i64 t221, .int .i64 t222, .slice adl jw.length abz] (0, 0) _ rfl (by (with_reducible repeat (first | refine ay ?_ _ | refine aC ?_ | refine az ?_ _)); refine bQ (cs := #[.int .i64 t221, .int .i64 t222, .slice none 0 0]) ?_ 2 _ rfl; (with_reducible repeat (first | refine ay ?_ _ | refine aC ?_ | refine az ?_ _)); refine bQ (cs := #[.int .i64 t221, .int .i64 lX, .slice none 0 0]) ?_ 1 _ rfl; (with_reducible repeat (first | refine ay ?_ _ | refine aC ?_ | refine az ?_ _)); refine bQ (cs := #[.int .i64 oJ, .int .i64 lX, .slice none 0 0]) ?_ 0 _ rfl; (with_reducible repeat (first | refine ay ?_ _ | refine aC ?_ | refine az ?_ _)); exact iW.out) Try.underlying26 rfl (by kernel_rfl)) rfl ?_
           exact ⟨_, by first | rfl | (simp [aU, aT] <;> rfl) | (simp [*, aU, aT] <;> rfl), by (with_reducible repeat (first | apply Kd.bZ | apply Kd.bY | apply Kd.dA)); exact Kd.fQ (Kd.dM (p := ⟨l_, 2, none⟩) (Kd.dM (p := ⟨l_, 1, none⟩) (Kd.dM (p := ⟨l_, 0, none⟩) (Kd.iM jC.out iW.out (by decide)) (fun _ hk => hk.2) (.int .i64 t221)) (fun _ hk => hk.2) (.int .i64 t222)) (fun _ hk => hk.2) (.slice adl jw.length abz)) (fun _ hk => trivial), by repeat (first | (with_reducible first | exact HB.out | apply au | apply af | apply ak | refine aG ?_ v_.out | refine aG ?_ IB.out) | exact HB.out)⟩
end Go.Proofs.Ytninmcmajbfccaa.PQ

namespace Go.Proofs.Ytninmcmajbfccaa.PQ
open Go.RowKit Go.Proofs.aH.bK Go.Proofs.aH.dG Go.Proofs.aH.dJ
attribute [local go_sem] jS jQ kT kS ji jh jR jP
set_option linter.unusedVariables false
set_option linter.unusedSimpArgs false
mutual
def bG.j0 : Nat → List Int → List Int → Bool → Int → Int → List Int → Option (Int × Int × List Int × Int × Int × List Int × Int)
 | 0, _, _, _, _, _, _ => none
 | k + 1, x0, x1, x23, Eh, Eg, Ef => if x23 = true then (some (0, 0, ([] : List Int), 0, 0, ([] : List Int), 1)) else (bG.l0 k x0 x1 0 Eh Eg Ef)
def bG.l0 : Nat → List Int → List Int → Int → Int → Int → List Int → Option (Int × Int × List Int × Int × Int × List Int × Int)
 | 0, _, _, _, _, _, _ => none
 | k + 1, x0, x1, x8, Eh, Eg, Ef => if x8 < (x0.length : Int) then (if 0 ≤ x8 then ((fC.f (rd x0 x8)).bind fun t240 => (if t240 = true then (if x8 < (x1.length : Int) then (if (rd x1 x8) < 0 then (some (0, 0, ([] : List Int), 0, 0, ([] : List Int), 1)) else (bG.l0 k x0 x1 (wrap64 (x8 + 1)) Eh Eg Ef)) else (none)) else (some (0, 0, ([] : List Int), 0, 0, ([] : List Int), 1)))) else (none)) else ((some (([] : List Int) : List Int)).bind fun J4 => (if J4.length + x0.length < 17592186044416 then (some ((x0.length : Int), 1, (J4 ++ x0), Eh, Eg, Ef, 0)) else (none)))
end
def bG.f (k : Nat) (l0 : List Int) (l1 : List Int) : Option (Int × Int × List Int × Int × Int × List Int × Int) := (bz.f k l1).bind fun uM => (if uM.2.2.2 = 0 then (bG.j0 k l0 l1 ((l0.length : Int) != (l1.length : Int)) uM.1 uM.2.1 uM.2.2.1) else (bG.j0 k l0 l1 true uM.1 uM.2.1 uM.2.2.1))
def bG.T10 : Bool × List (List Nat × List Nat) := (true, [([], []), ([0], [0]), ([], []), ([], []), ([2, 3], [2, 3]), ([1, 4], [1, 4]), ([], []), ([5, 6], [5, 6]), ([7, 4, 0, 1, 2, 3, 4, 5, 6, 7], [7]), ([8, 0, 1, 2, 3, 4, 5, 6, 7, 8], [])])
def bG.B10 : List Nat := [0, 1, 0, 0, 12, 31, 0, 127, 255, 511]
theorem bG.SK : qy .any (opsOf Try.f20 10) = bG.T10 := by kernel_rfl
theorem bG.Ol : pM bG.T10.2 bG.B10 = true := by kernel_rfl
theorem bG.calls (k : Nat) (A0 : Option Addr) (c0 : Nat) (l0 : List Int) (A1 : Option Addr) (c1 : Nat) (l1 : List Int) (r1 : Int) (r2 : Int) (r3 : List Int) (r4 : Int) (r5 : Int) (r6 : List Int) (r7 : Int) (w : World) (hr0 : Kd.C (Kd.int .i64) w A0 l0.length l0) (hc0 : l0.length ≤ c0) (hr1 : Kd.C (Kd.int .i64) w A1 l1.length l1) (hc1 : l1.length ≤ c1) (h : bG.f k l0 l1 = some (r1, r2, r3, r4, r5, r6, r7)) :
 Calls Try.prog 20 #[.slice A0 l0.length c0, .slice A1 l1.length c1] w fun e w' => ∃ wX YQ : Value, e = .returned (.tuple #[.agg #[.int .i64 r1, .int .i64 r2, wX, .int .i64 r4, .int .i64 r5, YQ], .int .i64 r7]) ∧ Kd.R (Kd.int .i64) 22 w' w.heap.size (fun k_ => some k_ ≠ (YQ : Value).ownBlock) wX r3 ∧ Kd.R (Kd.int .i64) 22 w' w.heap.size (fun k_ => some k_ ≠ (wX : Value).ownBlock) YQ r6 ∧ Below w.heap.size w w' := by
 have Q7 := Try.underlying28
 have yz := Try.underlying26
 have HR0 := ah.mk hr0
 have XX := ah.mk hc0
 clear hr0 hc0
 have HR1 := ah.mk hr1
 have HC1 := ah.mk hc1
 clear hr1 hc1
 have HB := ah.mk (Below.refl w.heap.size w)
 have H : ((bz.f k l1).bind fun uM => (if uM.2.2.2 = 0 then (bG.j0 k l0 l1 ((l0.length : Int) != (l1.length : Int)) uM.1 uM.2.1 uM.2.2.1) else (bG.j0 k l0 l1 true uM.1 uM.2.1 uM.2.2.1))) = some (r1, r2, r3, r4, r5, r6, r7) := h
 clear h
 replace H := Option.bind_eq_some_iff.mp H
 obtain ⟨⟨t232, t233, t234, t237⟩, xU, H⟩ := H
 replace H : (if t237 = 0 then (bG.j0 k l0 l1 ((l0.length : Int) != (l1.length : Int)) t232 t233 t234) else (bG.j0 k l0 l1 true t232 t233 t234)) = some (r1, r2, r3, r4, r5, r6, r7) := H
 have A3 := ah.mk xU
 clear xU
 have Oy := ah.mk H
 clear H
 go_enter Try.func20, Try.ntmps20
 go_upto_region 2 with (first | ((with_reducible refine dY (N := 4) rfl ?_); (try (refine mX (by rfl) ?_; dsimp only)); refine dH ?hg (N := 4) ?hd (cs := #[.int .i64 0, .int .i64 0, .slice none 0 0, .int .i64 0, .int .i64 0, .slice none 0 0]) (t := 28) ?hr ?_; (case hd => rfl); (case hg => rfl); (case hr => first | (go_simp; done) | (go_simp; rfl)); intro fU hg w5 hbox hb; have bT := ah.mk (aI (by repeat (first | (with_reducible first | exact HB.out | apply au | apply af | apply ak) | exact HB.out)) hb); have dD := ah.mk (hbox); have dQ := ah.mk ((by rw [hg]; exact (aW (by repeat (first | (with_reducible first | exact HB.out | apply au | apply af | apply ak) | exact HB.out))) : w.heap.size ≤ fU)); have eH := ah.mk ((by rw [hg]; exact (aW (by repeat (first | (with_reducible first | exact HB.out | apply au | apply af | apply ak) | exact HB.out))) : w.heap.size ≤ fU)); clear HB; have HB := bT; have fK := dD; have amn := dQ; have qM := eH; clear bT dD dQ eH; clear hb hbox hg) | ((with_reducible refine aV (f := 42) rfl ?_); refine cZ (some 12) rfl rfl Try.func42 (by kernel_rfl) rfl #[.slice A1 l1.length c1] rfl (by (try simp only [List.map_toArray, List.map_cons, List.map_nil]); first | done | rfl | (simp only [List.length_drop, List.length_take]; rfl)) ?_; (with_reducible refine (bz.calls k _ _ l1 t232 t233 t234 t237 _ ?eY ?eX A3.out).mono ?_); (case eY => repeat (first | exact (Kd.fB HR1.out HB.out) | (with_reducible refine Kd.fE ?_ _) | (with_reducible refine Kd.fD ?_ _) | (with_reducible refine Kd.gm ?_))); (case eX => exact HC1.out); rintro e w6 ⟨am8, rfl, ho0, hb⟩; refine ⟨_, rfl, ?_⟩; have bT := ah.mk (Kd.jG ho0 (aW (by repeat (first | (with_reducible first | exact HB.out | apply au | apply af | apply ak | refine aG ?_ qM.out) | exact HB.out)))); have dD := ah.mk (bg (g := fU) (o := .cells #[.int .i64 0, .int .i64 0, .slice none 0 0, .int .i64 0, .int .i64 0, .slice none 0 0] 28 (0, 0)) (by (with_reducible repeat (first | refine ay ?_ _ | refine aC ?_ | refine az ?_ _)); exact fK.out) hb); have dQ := ah.mk (aI (by repeat (first | (with_reducible first | exact HB.out | apply au | apply af | apply ak | refine aG ?_ qM.out) | exact HB.out)) hb); clear fK; clear HB; have Iw := bT; have fK := dD; have HB := dQ; clear bT dD dQ; (try clear hb); (try clear hb2); (try clear hk); (try clear hi); (try clear ho0)) | ((with_reducible refine dY (N := 6) rfl ?_); (try (refine mX (by rfl) ?_; dsimp only)); refine dH ?hg (N := 6) ?hd (cs := #[.int .i64 0, .int .i64 0, .slice none 0 0]) (t := 26) ?hr ?_; (case hd => rfl); (case hg => rfl); (case hr => first | (go_simp; done) | (go_simp; rfl)); intro oN hg w7 hbox hb; have bT := ah.mk (Kd.iO (by (with_reducible repeat (first | apply Kd.bZ | apply Kd.bY | apply Kd.dA)); exact Iw.out) hb); have dD := ah.mk (bg (g := fU) (o := .cells #[.int .i64 0, .int .i64 0, .slice none 0 0, .int .i64 0, .int .i64 0, .slice none 0 0] 28 (0, 0)) (by (with_reducible repeat (first | refine ay ?_ _ | refine aC ?_ | refine az ?_ _)); exact fK.out) hb); have dQ := ah.mk (aI (by repeat (first | (with_reducible first | exact HB.out | apply au | apply af | apply ak | refine aG ?_ qM.out) | exact HB.out)) hb); have eH := ah.mk (hbox); have iw := ah.mk ((by rw [hg]; exact (aW (by repeat (first | (with_reducible first | exact HB.out | apply au | apply af | apply ak | refine aG ?_ qM.out) | exact HB.out))) : w.heap.size ≤ oN)); have iQ := ah.mk ((by rw [hg]; exact (aW (by repeat (first | (with_reducible first | exact HB.out | apply au | apply af | apply ak | refine aG ?_ qM.out) | exact HB.out))) : w.heap.size ≤ oN)); have jk := ah.mk ((by rw [hg]; exact Nat.ne_of_lt (dP (g := fU) (o := .cells #[.int .i64 0, .int .i64 0, .slice none 0 0, .int .i64 0, .int .i64 0, .slice none 0 0] 28 (0, 0)) (by (with_reducible repeat (first | refine ay ?_ _ | refine aC ?_ | refine az ?_ _)); exact fK.out)) : fU ≠ oN)); have mQ := ah.mk ((by rw [hg]; exact Nat.ne_of_gt (dP (g := fU) (o := .cells #[.int .i64 0, .int .i64 0, .slice none 0 0, .int .i64 0, .int .i64 0, .slice none 0 0] 28 (0, 0)) (by (with_reducible repeat (first | refine ay ?_ _ | refine aC ?_ | refine az ?_ _)); exact fK.out)) : oN ≠ fU)); clear Iw; clear fK; clear HB; have Iw := bT; have fK := dD; have HB := dQ; have jE := eH; have amm := iw; have vZ := iQ; have jK := jk; have gu := mQ; clear bT dD dQ eH iw iQ jk mQ; clear hb hbox hg; have VB := gu.out; have VA := jK.out; have qZ : w7.cell? ⟨oN, 0, none⟩ = some (.int .i64 0) := (aj jE.out 0).trans rfl; have sZ : w7.cell? ⟨oN, 1, none⟩ = some (.int .i64 0) := (aj jE.out 1).trans rfl; have sW : w7.cell? ⟨oN, 2, none⟩ = some (.slice none 0 0) := (aj jE.out 2).trans rfl; have qY := aA jE.out 0; have sS := aA jE.out 1; have sQ := aA jE.out 2; obtain ⟨yQ, yF, aiW⟩ := Kd.iq Iw.out; subst aiW))
 (try simp only [Act.put, List.setIfInBounds_toArray, List.set_cons_zero, List.set_cons_succ])
 go_cut [23] (fun v23 wc => ∃ (kq : Nat) (OJ : Bool), v23 = .bool OJ ∧ ah (bG.j0 kq l0 l1 OJ t232 t233 t234 = some (r1, r2, r3, r4, r5, r6, r7)) ∧ ah (kq ≤ k) ∧ ah (Kd.R (Kd.int .i64) 22 wc w.heap.size (fun _ => True) (.slice yQ t234.length yF) t234) ∧ ah (wc.heap[fU]? = some (.cells #[.int .i64 0, .int .i64 0, (.slice none 0 0), .int .i64 0, .int .i64 0, (.slice none 0 0)] 28 (0, 0))) ∧ ah (wc.heap[oN]? = some (.cells #[.int .i64 t232, .int .i64 t233, (.slice yQ t234.length yF)] 26 (0, 0))) ∧ ah (Below w.heap.size w wc))
 case first =>
  have H := Oy.out
  clear Oy
  by_cases c11 : t237 = 0
  · rw [if_pos c11] at H
    have qJ : (t237 == 0) = true := beq_iff_eq.mpr c11
    have BJ : (t237 != 0) = false := bne_eq_false_iff_eq.mpr c11
    clear c11
    (first | rw [qJ] | (simp only [aJ, aK]; rw [qJ]) | skip)
    have H' := ah.mk H
    clear H
    go_wp2
    go_meet
    case rel => exact ⟨_, (((l0.length : Int) != (l1.length : Int))), (by first | rfl | (simp; done) | (simp [*]; done)), H', ⟨by first | omega | exact Nat.le_refl _⟩, ⟨by (with_reducible repeat (first | apply Kd.bZ | apply Kd.bY | apply Kd.dA)); exact Kd.fQ (Kd.dM (p := ⟨oN, 2, none⟩) (Kd.dM (p := ⟨oN, 1, none⟩) (Kd.dM (p := ⟨oN, 0, none⟩) (Kd.iM Iw.out jE.out (by decide)) (fun _ hk => hk.2) (.int .i64 t232)) (fun _ hk => hk.2) (.int .i64 t233)) (fun _ hk => hk.2) (.slice yQ t234.length yF)) (fun _ hk => trivial)⟩, ⟨by (with_reducible repeat (first | refine ay ?_ _ | refine aC ?_ | refine az ?_ _)); refine dL ?_ jK.out _; (with_reducible repeat (first | refine ay ?_ _ | refine aC ?_ | refine az ?_ _)); refine dL ?_ jK.out _; (with_reducible repeat (first | refine ay ?_ _ | refine aC ?_ | refine az ?_ _)); refine dL ?_ jK.out _; (with_reducible repeat (first | refine ay ?_ _ | refine aC ?_ | refine az ?_ _)); exact fK.out⟩, ⟨by (with_reducible repeat (first | refine ay ?_ _ | refine aC ?_ | refine az ?_ _)); refine bQ (cs := #[.int .i64 t232, .int .i64 t233, .slice none 0 0]) ?_ 2 _ rfl; (with_reducible repeat (first | refine ay ?_ _ | refine aC ?_ | refine az ?_ _)); refine bQ (cs := #[.int .i64 t232, .int .i64 0, .slice none 0 0]) ?_ 1 _ rfl; (with_reducible repeat (first | refine ay ?_ _ | refine aC ?_ | refine az ?_ _)); refine bQ (cs := #[.int .i64 0, .int .i64 0, .slice none 0 0]) ?_ 0 _ rfl; (with_reducible repeat (first | refine ay ?_ _ | refine aC ?_ | refine az ?_ _)); exact jE.out⟩, ⟨by repeat (first | (with_reducible first | exact HB.out | apply au | apply af | apply ak | refine aG ?_ qM.out | refine aG ?_ vZ.out) | exact HB.out)⟩⟩
  · rw [if_neg c11] at H
    have qJ : (t237 == 0) = false := beq_eq_false_iff_ne.mpr c11
    have BJ : (t237 != 0) = true := bne_iff_ne.mpr c11
    (first | rw [qJ] | (simp only [aJ, aK]; rw [qJ]) | skip)
    have H' := ah.mk H
    clear H
    go_wp2
    go_meet
    case rel => exact ⟨_, (true), (by first | rfl | (simp; done) | (simp [*]; done)), H', ⟨by first | omega | exact Nat.le_refl _⟩, ⟨by (with_reducible repeat (first | apply Kd.bZ | apply Kd.bY | apply Kd.dA)); exact Kd.fQ (Kd.dM (p := ⟨oN, 2, none⟩) (Kd.dM (p := ⟨oN, 1, none⟩) (Kd.dM (p := ⟨oN, 0, none⟩) (Kd.iM Iw.out jE.out (by decide)) (fun _ hk => hk.2) (.int .i64 t232)) (fun _ hk => hk.2) (.int .i64 t233)) (fun _ hk => hk.2) (.slice yQ t234.length yF)) (fun _ hk => trivial)⟩, ⟨by (with_reducible repeat (first | refine ay ?_ _ | refine aC ?_ | refine az ?_ _)); refine dL ?_ jK.out _; (with_reducible repeat (first | refine ay ?_ _ | refine aC ?_ | refine az ?_ _)); refine dL ?_ jK.out _; (with_reducible repeat (first | refine ay ?_ _ | refine aC ?_ | refine az ?_ _)); refine dL ?_ jK.out _; (with_reducible repeat (first | refine ay ?_ _ | refine aC ?_ | refine az ?_ _)); exact fK.out⟩, ⟨by (with_reducible repeat (first | refine ay ?_ _ | refine aC ?_ | refine az ?_ _)); refine bQ (cs := #[.int .i64 t232, .int .i64 t233, .slice none 0 0]) ?_ 2 _ rfl; (with_reducible repeat (first | refine ay ?_ _ | refine aC ?_ | refine az ?_ _)); refine bQ (cs := #[.int .i64 t232, .int .i64 0, .slice none 0 0]) ?_ 1 _ rfl; (with_reducible repeat (first | refine ay ?_ _ | refine aC ?_ | refine az ?_ _)); refine bQ (cs := #[.int .i64 0, .int .i64 0, .slice none 0 0]) ?_ 0 _ rfl; (with_reducible repeat (first | refine ay ?_ _ | refine aC ?_ | refine az ?_ _)); exact jE.out⟩, ⟨by repeat (first | (with_reducible first | exact HB.out | apply au | apply af | apply ak | refine aG ?_ qM.out | refine aG ?_ vZ.out) | exact HB.out)⟩⟩
 case rest =>
  clear Oy
  try clear c1
  try clear c2
  try clear p2
  try clear c4
  try clear c8
  try clear c11
  try clear qJ
  try clear BJ
  try clear qZ
  try clear sZ
  try clear sW
  try clear qY
  try clear sS
  try clear sQ
  obtain ⟨kq, OJ, rfl, HA, UK, iI, fK, jE, HB⟩ := hcut
  cases kq with
  | zero => exact absurd HA.out (by simp [bG.j0])
  | succ TC =>
    have H := HA.out
    clear HA
    simp only [bG.j0] at H
    by_cases c12 : OJ = true
    · subst c12
      rw [if_pos rfl] at H
      simp only [Option.some.injEq, Prod.mk.injEq] at H
      obtain ⟨rfl, rfl, rfl, rfl, rfl, rfl, rfl⟩ := H
      have aa_ := jK.out
      have aa2 := gu.out
      have Qi : wc.cell? ⟨fU, 0, none⟩ = some (.int .i64 0) := (aj fK.out 0).trans rfl
      have Qh : wc.cell? ⟨fU, 1, none⟩ = some (.int .i64 0) := (aj fK.out 1).trans rfl
      have Qg : wc.cell? ⟨fU, 2, none⟩ = some (.slice none 0 0) := (aj fK.out 2).trans rfl
      have Xp : wc.cell? ⟨fU, 3, none⟩ = some (.int .i64 0) := (aj fK.out 3).trans rfl
      have Xo : wc.cell? ⟨fU, 4, none⟩ = some (.int .i64 0) := (aj fK.out 4).trans rfl
      have Xn : wc.cell? ⟨fU, 5, none⟩ = some (.slice none 0 0) := (aj fK.out 5).trans rfl
      have PW := aA fK.out 0
      have PV := aA fK.out 1
      have PU := aA fK.out 2
      have Wv := aA fK.out 3
      have Wu := aA fK.out 4
      have Ws := aA fK.out 5
      go_wp2
      refine bodyPost_ret (lQ rfl _ _ fU 28 #[.int .i64 0, .int .i64 0, .slice none 0 0, .int .i64 0, .int .i64 0, .slice none 0 0] (0, 0) _ rfl (by (with_reducible repeat (first | refine ay ?_ _ | refine aC ?_ | refine az ?_ _)); refine bQ (cs := #[.int .i64 0, .int .i64 0, .slice none 0 0, .int .i64 0, .int .i64 0, .slice none 0 0]) ?_ 5 _ rfl; (with_reducible repeat (first | refine ay ?_ _ | refine aC ?_ | refine az ?_ _)); refine bQ (cs := #[.int .i64 0, .int .i64 0, .slice none 0 0, .int .i64 0, .int .i64 0, .slice none 0 0]) ?_ 4 _ rfl; (with_reducible repeat (first | refine ay ?_ _ | refine aC ?_ | refine az ?_ _)); refine bQ (cs := #[.int .i64 0, .int .i64 0, .slice none 0 0, .int .i64 0, .int .i64 0, .slice none 0 0]) ?_ 3 _ rfl; (with_reducible repeat (first | refine ay ?_ _ | refine aC ?_ | refine az ?_ _)); refine bQ (cs := #[.int .i64 0, .int .i64 0, .slice none 0 0, .int .i64 0, .int .i64 0, .slice none 0 0]) ?_ 2 _ rfl; (with_reducible repeat (first | refine ay ?_ _ | refine aC ?_ | refine az ?_ _)); refine bQ (cs := #[.int .i64 0, .int .i64 0, .slice none 0 0, .int .i64 0, .int .i64 0, .slice none 0 0]) ?_ 1 _ rfl; (with_reducible repeat (first | refine ay ?_ _ | refine aC ?_ | refine az ?_ _)); refine bQ (cs := #[.int .i64 0, .int .i64 0, .slice none 0 0, .int .i64 0, .int .i64 0, .slice none 0 0]) ?_ 0 _ rfl; (with_reducible repeat (first | refine ay ?_ _ | refine aC ?_ | refine az ?_ _)); exact fK.out) Try.underlying28 rfl (by kernel_rfl)) rfl ?_
      exact ⟨_, _, by first | rfl | (simp [aU, aT] <;> rfl) | (simp [*, aU, aT] <;> rfl), by first | exact Kd.qV _ _ _ _ _ | exact Kd.vV _ _ _ _ _ | exact Kd.vP _ _ _ _ _ | exact Kd.vU _ _ _ _ _ | exact Kd.vS _ _ _ _ _, by first | exact Kd.qV _ _ _ _ _ | exact Kd.vV _ _ _ _ _ | exact Kd.vP _ _ _ _ _ | exact Kd.vU _ _ _ _ _ | exact Kd.vS _ _ _ _ _, by repeat (first | (with_reducible first | exact HB.out | apply au | apply af | apply ak | refine aG ?_ qM.out | refine aG ?_ vZ.out) | exact HB.out)⟩
    · replace c12 := Bool.eq_false_iff.mpr c12
      subst c12
      have H1 : (bG.l0 TC l0 l1 0 t232 t233 t234) = some (r1, r2, r3, r4, r5, r6, r7) := by rw [if_neg (show ¬ (false = true) by decide)] at H; exact H
      clear H
      have H := H1
      clear H1
      have H' := ah.mk H
      clear H
      go_wp2
      go_loopg [8] TC (fun kq v8 w' => ∃ (m_ : Int) (kM : Int) (jI : Int) (iH : Int) (gW : Int), v8 = .int .i64 m_ ∧ ah (bG.l0 kq l0 l1 m_ t232 t233 t234 = some (r1, r2, r3, r4, r5, r6, r7)) ∧ ah (kq ≤ TC) ∧ ah (Kd.R (Kd.int .i64) 22 w' w.heap.size (fun _ => True) (.slice yQ t234.length yF) t234) ∧ ah (w'.heap[fU]? = some (.cells #[.int .i64 kM, .int .i64 jI, (.slice none 0 0), .int .i64 iH, .int .i64 gW, (.slice none 0 0)] 28 (0, 0))) ∧ ah (w'.heap[oN]? = some (.cells #[.int .i64 t232, .int .i64 t233, (.slice yQ t234.length yF)] 26 (0, 0))) ∧ ah (Below w.heap.size w w'))
      case atStart => exact ⟨(0), (0), (0), (0), (0), (by first | rfl | (simp; done) | (simp [*]; done)), H', ⟨Nat.le_refl _⟩, ⟨by (with_reducible repeat (first | apply Kd.bZ | apply Kd.bY | apply Kd.dA)); exact iI.out⟩, ⟨by (with_reducible repeat (first | refine ay ?_ _ | refine aC ?_ | refine az ?_ _)); exact fK.out⟩, ⟨by (with_reducible repeat (first | refine ay ?_ _ | refine aC ?_ | refine az ?_ _)); exact jE.out⟩, ⟨by repeat (first | (with_reducible first | exact HB.out | apply au | apply af | apply ak | refine aG ?_ qM.out | refine aG ?_ vZ.out) | exact HB.out)⟩⟩
      case round =>
       clear H'
       try clear c1
       try clear c2
       try clear p2
       try clear c4
       try clear c8
       try clear c11
       try clear qJ
       try clear BJ
       try clear c12
       try clear c13
       try clear Qi
       try clear Qh
       try clear Qg
       try clear Xp
       try clear Xo
       try clear Xn
       try clear qZ
       try clear sZ
       try clear sW
       try clear PW
       try clear PV
       try clear PU
       try clear Wv
       try clear Wu
       try clear Ws
       try clear qY
       try clear sS
       try clear sQ
       try clear p2
       obtain ⟨m_, kM, jI, iH, gW, rfl, HA, yN, iI, fK, jE, HB⟩ := hrel
       cases gk with
       | zero => exact absurd HA.out (by simp [bG.l0])
       | succ k2 =>
         have H := HA.out
         clear HA
         simp only [bG.l0] at H
         by_cases c15 : m_ < (l0.length : Int)
         · rw [if_pos c15] at H
           have Gp : decide (m_ < (l0.length : Int)) = true := decide_eq_true c15
           clear c15
           by_cases c16 : 0 ≤ m_
           · rw [if_pos c16] at H
             have DX : decide (0 ≤ m_) = true := decide_eq_true c16
             clear c16
             replace H := Option.bind_eq_some_iff.mp H
             obtain ⟨t240, ady, H⟩ := H
             replace H : (if t240 = true then (if m_ < (l1.length : Int) then (if (rd l1 m_) < 0 then (some (0, 0, ([] : List Int), 0, 0, ([] : List Int), 1)) else (bG.l0 k2 l0 l1 (wrap64 (m_ + 1)) t232 t233 t234)) else (none)) else (some (0, 0, ([] : List Int), 0, 0, ([] : List Int), 1))) = some (r1, r2, r3, r4, r5, r6, r7) := H
             have A17 := ah.mk ady
             clear ady
             by_cases c18 : t240 = true
             · subst c18
               rw [if_pos rfl] at H
               by_cases c19 : m_ < (l1.length : Int)
               · rw [if_pos c19] at H
                 have LV : decide (m_ < (l1.length : Int)) = true := decide_eq_true c19
                 clear c19
                 by_cases c20 : (rd l1 m_) < 0
                 · rw [if_pos c20] at H
                   have Qn : decide ((rd l1 m_) < 0) = true := decide_eq_true c20
                   clear c20
                   simp only [Option.some.injEq, Prod.mk.injEq] at H
                   obtain ⟨rfl, rfl, rfl, rfl, rfl, rfl, rfl⟩ := H
                   have Fa : 0 ≤ (m_ : Int) := of_decide_eq_true (by first | (with_reducible assumption) | assumption)
                   have E_ : m_ < (l0.length : Int) := of_decide_eq_true (by first | (with_reducible assumption) | assumption)
                   obtain ⟨Yw, Ui, qE⟩ := Kd.jv HR0.out m_ Fa E_
                   cases Ui
                   replace qE := (HB.out.cell (World.block_lt_of_cell? w _ qE)).trans qE
                   replace Fa := eq_true Fa
                   replace E_ := eq_true E_
                   go_wp2_with (first | ((with_reducible refine aV (f := 37) rfl ?_); refine cZ (some 35) rfl rfl Try.func37 (by kernel_rfl) rfl #[.int .i64 (rd l0 m_)] rfl (by (try simp only [List.map_toArray, List.map_cons, List.map_nil]); first | done | rfl | (simp only [List.length_drop, List.length_take]; rfl)) ?_; (with_reducible refine (fC.calls (rd l0 m_) true _ A17.out).mono ?_); rintro e w' ⟨rfl, ⟨nd, rfl⟩⟩; refine ⟨_, rfl, ?_⟩; (try (rw [xA wr]; generalize Fp : World.drewN wr _ = wr; have bT : ah (Kd.R (Kd.int .i64) 22 wr w.heap.size (fun _ => True) (.slice yQ t234.length yF) t234) := ⟨by rw [← Fp]; exact (by (with_reducible repeat (first | apply Kd.bZ | apply Kd.bY | apply Kd.dA)); exact iI.out)⟩; have dD : ah (wr.heap[fU]? = some (.cells #[.int .i64 kM, .int .i64 jI, .slice none 0 0, .int .i64 iH, .int .i64 gW, .slice none 0 0] 28 (0, 0))) := ⟨by rw [← Fp]; exact (by (with_reducible repeat (first | refine ay ?_ _ | refine aC ?_ | refine az ?_ _)); exact fK.out)⟩; have dQ : ah (wr.heap[oN]? = some (.cells #[.int .i64 t232, .int .i64 t233, .slice yQ t234.length yF] 26 (0, 0))) := ⟨by rw [← Fp]; exact (by (with_reducible repeat (first | refine ay ?_ _ | refine aC ?_ | refine az ?_ _)); exact jE.out)⟩; have eH : ah (Below w.heap.size w wr) := ⟨by rw [← Fp]; exact (by repeat (first | (with_reducible first | exact HB.out | apply au | apply af | apply ak | refine aG ?_ qM.out | refine aG ?_ vZ.out) | exact HB.out))⟩; clear iI fK jE HB Fp; have iI := bT; have fK := dD; have jE := dQ; have HB := eH; clear bT dD dQ eH)); have Nw : 0 ≤ (m_ : Int) := of_decide_eq_true (by first | (with_reducible assumption) | assumption); have Nb : m_ < (l1.length : Int) := of_decide_eq_true (by first | (with_reducible assumption) | assumption); obtain ⟨abU, e241, xg⟩ := Kd.jv HR1.out m_ Nw Nb; cases e241; replace xg := (HB.out.cell (World.block_lt_of_cell? w _ xg)).trans xg; replace Nw := eq_true Nw; replace Nb := eq_true Nb; have akH := jK.out; have akq := gu.out; have ahl : wr.cell? ⟨fU, 0, none⟩ = some (.int .i64 kM) := (aj fK.out 0).trans rfl; have ahk : wr.cell? ⟨fU, 1, none⟩ = some (.int .i64 jI) := (aj fK.out 1).trans rfl; have ahj : wr.cell? ⟨fU, 2, none⟩ = some (.slice none 0 0) := (aj fK.out 2).trans rfl; have ahi : wr.cell? ⟨fU, 3, none⟩ = some (.int .i64 iH) := (aj fK.out 3).trans rfl; have ahh : wr.cell? ⟨fU, 4, none⟩ = some (.int .i64 gW) := (aj fK.out 4).trans rfl; have ahg : wr.cell? ⟨fU, 5, none⟩ = some (.slice none 0 0) := (aj fK.out 5).trans rfl; have af5 := aA fK.out 0; have af4 := aA fK.out 1; have af2 := aA fK.out 2; have af1 := aA fK.out 3; have af0 := aA fK.out 4; have afZ := aA fK.out 5))
                   refine bodyPost_ret (lQ rfl _ _ fU 28 #[.int .i64 0, .int .i64 0, .slice none 0 0, .int .i64 0, .int .i64 0, .slice none 0 0] (0, 0) _ rfl (by (with_reducible repeat (first | refine ay ?_ _ | refine aC ?_ | refine az ?_ _)); refine bQ (cs := #[.int .i64 0, .int .i64 0, .slice none 0 0, .int .i64 0, .int .i64 0, .slice none 0 0]) ?_ 5 _ rfl; (with_reducible repeat (first | refine ay ?_ _ | refine aC ?_ | refine az ?_ _)); refine bQ (cs := #[.int .i64 0, .int .i64 0, .slice none 0 0, .int .i64 0, .int .i64 gW, .slice none 0 0]) ?_ 4 _ rfl; (with_reducible repeat (first | refine ay ?_ _ | refine aC ?_ | refine az ?_ _)); refine bQ (cs := #[.int .i64 0, .int .i64 0, .slice none 0 0, .int .i64 iH, .int .i64 gW, .slice none 0 0]) ?_ 3 _ rfl; (with_reducible repeat (first | refine ay ?_ _ | refine aC ?_ | refine az ?_ _)); refine bQ (cs := #[.int .i64 0, .int .i64 0, .slice none 0 0, .int .i64 iH, .int .i64 gW, .slice none 0 0]) ?_ 2 _ rfl; (with_reducible repeat (first | refine ay ?_ _ | refine aC ?_ | refine az ?_ _)); refine bQ (cs := #[.int .i64 0, .int .i64 jI, .slice none 0 0, .int .i64 iH, .int .i64 gW, .slice none 0 0]) ?_ 1 _ rfl; (with_reducible repeat (first | refine ay ?_ _ | refine aC ?_ | refine az ?_ _)); refine bQ (cs := #[.int .i64 kM, .int .i64 jI, .slice none 0 0, .int .i64 iH, .int .i64 gW, .slice none 0 0]) ?_ 0 _ rfl; (with_reducible repeat (first | refine ay ?_ _ | refine aC ?_ | refine az ?_ _)); exact fK.out) Try.underlying28 rfl (by kernel_rfl)) rfl ?_
                   exact ⟨_, _, by first | rfl | (simp [aU, aT] <;> rfl) | (simp [*, aU, aT] <;> rfl), by first | exact Kd.qV _ _ _ _ _ | exact Kd.vV _ _ _ _ _ | exact Kd.vP _ _ _ _ _ | exact Kd.vU _ _ _ _ _ | exact Kd.vS _ _ _ _ _, by first | exact Kd.qV _ _ _ _ _ | exact Kd.vV _ _ _ _ _ | exact Kd.vP _ _ _ _ _ | exact Kd.vU _ _ _ _ _ | exact Kd.vS _ _ _ _ _, by repeat (first | (with_reducible first | exact HB.out | apply au | apply af | apply ak | refine aG ?_ qM.out | refine aG ?_ vZ.out) | exact HB.out)⟩
                 · rw [if_neg c20] at H
                   have Qn : decide ((rd l1 m_) < 0) = false := decide_eq_false c20
                   clear c20
                   have H' := ah.mk H
                   clear H
                   have Fa : 0 ≤ (m_ : Int) := of_decide_eq_true (by first | (with_reducible assumption) | assumption)
                   have E_ : m_ < (l0.length : Int) := of_decide_eq_true (by first | (with_reducible assumption) | assumption)
                   obtain ⟨Yw, Ui, qE⟩ := Kd.jv HR0.out m_ Fa E_
                   cases Ui
                   replace qE := (HB.out.cell (World.block_lt_of_cell? w _ qE)).trans qE
                   replace Fa := eq_true Fa
                   replace E_ := eq_true E_
                   go_wp2_with (first | ((with_reducible refine aV (f := 37) rfl ?_); refine cZ (some 35) rfl rfl Try.func37 (by kernel_rfl) rfl #[.int .i64 (rd l0 m_)] rfl (by (try simp only [List.map_toArray, List.map_cons, List.map_nil]); first | done | rfl | (simp only [List.length_drop, List.length_take]; rfl)) ?_; (with_reducible refine (fC.calls (rd l0 m_) true _ A17.out).mono ?_); rintro e w' ⟨rfl, ⟨nd, rfl⟩⟩; refine ⟨_, rfl, ?_⟩; have Nw : 0 ≤ (m_ : Int) := of_decide_eq_true (by first | (with_reducible assumption) | assumption); have Nb : m_ < (l1.length : Int) := of_decide_eq_true (by first | (with_reducible assumption) | assumption); obtain ⟨abU, e241, xg⟩ := Kd.jv HR1.out m_ Nw Nb; cases e241; replace xg := (HB.out.cell (World.block_lt_of_cell? w _ xg)).trans xg; replace Nw := eq_true Nw; replace Nb := eq_true Nb))
                   go_roundg k2
                   case measure => have := UK.out; have := yN.out; omega
                   case rel => exact ⟨(wrap64 (m_ + 1)), (kM), (jI), (iH), (gW), (by first | rfl | (simp; done) | (simp [*]; done)), H', ⟨by have := UK.out; have := yN.out; omega⟩, ⟨by (with_reducible repeat (first | apply Kd.bZ | apply Kd.bY | apply Kd.dA)); exact iI.out⟩, ⟨by (with_reducible repeat (first | refine ay ?_ _ | refine aC ?_ | refine az ?_ _)); exact fK.out⟩, ⟨by (with_reducible repeat (first | refine ay ?_ _ | refine aC ?_ | refine az ?_ _)); exact jE.out⟩, ⟨by repeat (first | (with_reducible first | exact HB.out | apply au | apply af | apply ak | refine aG ?_ qM.out | refine aG ?_ vZ.out) | exact HB.out)⟩⟩
               · rw [if_neg c19] at H
                 exact absurd H (by simp)
             · replace c18 := Bool.eq_false_iff.mpr c18
               subst c18
               have H1 : (some (0, 0, ([] : List Int), 0, 0, ([] : List Int), 1)) = some (r1, r2, r3, r4, r5, r6, r7) := by rw [if_neg (show ¬ (false = true) by decide)] at H; exact H
               clear H
               have H := H1
               clear H1
               simp only [Option.some.injEq, Prod.mk.injEq] at H
               obtain ⟨rfl, rfl, rfl, rfl, rfl, rfl, rfl⟩ := H
               have Fa : 0 ≤ (m_ : Int) := of_decide_eq_true (by first | (with_reducible assumption) | assumption)
               have E_ : m_ < (l0.length : Int) := of_decide_eq_true (by first | (with_reducible assumption) | assumption)
               obtain ⟨Yw, Ui, qE⟩ := Kd.jv HR0.out m_ Fa E_
               cases Ui
               replace qE := (HB.out.cell (World.block_lt_of_cell? w _ qE)).trans qE
               replace Fa := eq_true Fa
               replace E_ := eq_true E_
               go_wp2_with (first | ((with_reducible refine aV (f := 37) rfl ?_); refine cZ (some 35) rfl rfl Try.func37 (by kernel_rfl) rfl #[.int .i64 (rd l0 m_)] rfl (by (try simp only [List.map_toArray, List.map_cons, List.map_nil]); first | done | rfl | (simp only [List.length_drop, List.length_take]; rfl)) ?_; (with_reducible refine (fC.calls (rd l0 m_) false _ A17.out).mono ?_); rintro e w' ⟨rfl, ⟨nd, rfl⟩⟩; refine ⟨_, rfl, ?_⟩; (try (rw [xA wr]; generalize Fp : World.drewN wr _ = wr; have bT : ah (Kd.R (Kd.int .i64) 22 wr w.heap.size (fun _ => True) (.slice yQ t234.length yF) t234) := ⟨by rw [← Fp]; exact (by (with_reducible repeat (first | apply Kd.bZ | apply Kd.bY | apply Kd.dA)); exact iI.out)⟩; have dD : ah (wr.heap[fU]? = some (.cells #[.int .i64 kM, .int .i64 jI, .slice none 0 0, .int .i64 iH, .int .i64 gW, .slice none 0 0] 28 (0, 0))) := ⟨by rw [← Fp]; exact (by (with_reducible repeat (first | refine ay ?_ _ | refine aC ?_ | refine az ?_ _)); exact fK.out)⟩; have dQ : ah (wr.heap[oN]? = some (.cells #[.int .i64 t232, .int .i64 t233, .slice yQ t234.length yF] 26 (0, 0))) := ⟨by rw [← Fp]; exact (by (with_reducible repeat (first | refine ay ?_ _ | refine aC ?_ | refine az ?_ _)); exact jE.out)⟩; have eH : ah (Below w.heap.size w wr) := ⟨by rw [← Fp]; exact (by repeat (first | (with_reducible first | exact HB.out | apply au | apply af | apply ak | refine aG ?_ qM.out | refine aG ?_ vZ.out) | exact HB.out))⟩; clear iI fK jE HB Fp; have iI := bT; have fK := dD; have jE := dQ; have HB := eH; clear bT dD dQ eH)); have aa6 := jK.out; have aaY := gu.out; have EG : wr.cell? ⟨fU, 0, none⟩ = some (.int .i64 kM) := (aj fK.out 0).trans rfl; have EF : wr.cell? ⟨fU, 1, none⟩ = some (.int .i64 jI) := (aj fK.out 1).trans rfl; have EE : wr.cell? ⟨fU, 2, none⟩ = some (.slice none 0 0) := (aj fK.out 2).trans rfl; have P_ : wr.cell? ⟨fU, 3, none⟩ = some (.int .i64 iH) := (aj fK.out 3).trans rfl; have P9 : wr.cell? ⟨fU, 4, none⟩ = some (.int .i64 gW) := (aj fK.out 4).trans rfl; have P8 : wr.cell? ⟨fU, 5, none⟩ = some (.slice none 0 0) := (aj fK.out 5).trans rfl; have Ey := aA fK.out 0; have Ew := aA fK.out 1; have Eu := aA fK.out 2; have PL := aA fK.out 3; have PK := aA fK.out 4; have PI := aA fK.out 5))
               refine bodyPost_ret (lQ rfl _ _ fU 28 #[.int .i64 0, .int .i64 0, .slice none 0 0, .int .i64 0, .int .i64 0, .slice none 0 0] (0, 0) _ rfl (by (with_reducible repeat (first | refine ay ?_ _ | refine aC ?_ | refine az ?_ _)); refine bQ (cs := #[.int .i64 0, .int .i64 0, .slice none 0 0, .int .i64 0, .int .i64 0, .slice none 0 0]) ?_ 5 _ rfl; (with_reducible repeat (first | refine ay ?_ _ | refine aC ?_ | refine az ?_ _)); refine bQ (cs := #[.int .i64 0, .int .i64 0, .slice none 0 0, .int .i64 0, .int .i64 gW, .slice none 0 0]) ?_ 4 _ rfl; (with_reducible repeat (first | refine ay ?_ _ | refine aC ?_ | refine az ?_ _)); refine bQ (cs := #[.int .i64 0, .int .i64 0, .slice none 0 0, .int .i64 iH, .int .i64 gW, .slice none 0 0]) ?_ 3 _ rfl; (with_reducible repeat (first | refine ay ?_ _ | refine aC ?_ | refine az ?_ _)); refine bQ (cs := #[.int .i64 0, .int .i64 0, .slice none 0 0, .int .i64 iH, .int .i64 gW, .slice none 0 0]) ?_ 2 _ rfl; (with_reducible repeat (first | refine ay ?_ _ | refine aC ?_ | refine az ?_ _)); refine bQ (cs := #[.int .i64 0, .int .i64 jI, .slice none 0 0, .int .i64 iH, .int .i64 gW, .slice none 0 0]) ?_ 1 _ rfl; (with_reducible repeat (first | refine ay ?_ _ | refine aC ?_ | refine az ?_ _)); refine bQ (cs := #[.int .i64 kM, .int .i64 jI, .slice none 0 0, .int .i64 iH, .int .i64 gW, .slice none 0 0]) ?_ 0 _ rfl; (with_reducible repeat (first | refine ay ?_ _ | refine aC ?_ | refine az ?_ _)); exact fK.out) Try.underlying28 rfl (by kernel_rfl)) rfl ?_
               exact ⟨_, _, by first | rfl | (simp [aU, aT] <;> rfl) | (simp [*, aU, aT] <;> rfl), by first | exact Kd.qV _ _ _ _ _ | exact Kd.vV _ _ _ _ _ | exact Kd.vP _ _ _ _ _ | exact Kd.vU _ _ _ _ _ | exact Kd.vS _ _ _ _ _, by first | exact Kd.qV _ _ _ _ _ | exact Kd.vV _ _ _ _ _ | exact Kd.vP _ _ _ _ _ | exact Kd.vU _ _ _ _ _ | exact Kd.vS _ _ _ _ _, by repeat (first | (with_reducible first | exact HB.out | apply au | apply af | apply ak | refine aG ?_ qM.out | refine aG ?_ vZ.out) | exact HB.out)⟩
           · rw [if_neg c16] at H
             exact absurd H (by simp)
         · rw [if_neg c15] at H
           have Gp : decide (m_ < (l0.length : Int)) = false := decide_eq_false c15
           clear c15
           obtain ⟨J4, KY⟩ : ∃ y_ : List Int, y_ = (([] : List Int)) := ⟨_, rfl⟩
           replace H : (if J4.length + l0.length < 17592186044416 then (some ((l0.length : Int), 1, (J4 ++ l0), t232, t233, t234, 0)) else (none)) = some (r1, r2, r3, r4, r5, r6, r7) := by first | (rw [KY]; with_reducible exact H) | (have Dt := (Option.bind_some _ _).symm.trans H; rw [KY]; with_reducible exact Dt) | (have Dt := (Option.bind_some _ _).symm.trans H; with_reducible exact Dt) | with_reducible exact H | (rw [KY]; exact H) | exact H
           have YD := ah.mk KY
           clear KY
           by_cases c25 : J4.length + l0.length < 17592186044416
           · rw [if_pos c25] at H
             have acG := ah.mk c25
             clear c25
             obtain ⟨MM, KX⟩ : ∃ y_ : List Int, y_ = (J4 ++ l0) := ⟨_, rfl⟩
             replace H : (some ((l0.length : Int), 1, MM, t232, t233, t234, 0)) = some (r1, r2, r3, r4, r5, r6, r7) := by first | (rw [KX]; with_reducible exact H) | (have Dt := (Option.bind_some _ _).symm.trans H; rw [KX]; with_reducible exact Dt) | (have Dt := (Option.bind_some _ _).symm.trans H; with_reducible exact Dt) | with_reducible exact H | (rw [KX]; exact H) | exact H
             have acB := ah.mk KX
             clear KX
             simp only [Option.some.injEq, Prod.mk.injEq] at H
             obtain ⟨rfl, rfl, rfl, rfl, rfl, rfl, rfl⟩ := H
             try go_wp2
             have bT := ah.mk (Kd.dA iI.out)
             have dD := ah.mk (aC fK.out)
             have dQ := ah.mk (aC jE.out)
             have eH := ah.mk (ak HB.out)
             clear iI
             clear fK
             clear jE
             clear HB
             have iI := bT
             have fK := dD
             have jE := dQ
             have HB := eH
             clear bT dD dQ eH
             refine oV (n := 10) (S := fun w' => w'.cell? ⟨oN, 0, none⟩ = some (.int .i64 t232) ∧ w'.cell? ⟨oN, 1, none⟩ = some (.int .i64 t233) ∧ w'.cell? ⟨oN, 2, none⟩ = some (.slice yQ t234.length yF)) (ds := []) #[false, false, false, false, false, false, false, false, false, false] (by kernel_rfl) rfl rfl ⟨(aj jE.out 0).trans rfl, (aj jE.out 1).trans rfl, (aj jE.out 2).trans rfl⟩ (fun hHeld => ?_); refine jJ bG.SK bG.Ol (fun dF pI => ?_)
             generalize wr.drew = X8 at iI fK jE HB hHeld ⊢
             refine bf (i := 0) (N := some 46) (v := ?_) (a' := ?_) #[true, false, false, false, false, false, false, false, false, false] rfl rfl (aN dF.out (by kernel_rfl)) (fun _ _ _ h => h) (Or.inl ⟨by rfl, ?_⟩) ?_ ?_
             rotate_left
             · intro w'
               go_simp
               with_reducible rfl
             rotate_left
             · simp only [Act.put, List.setIfInBounds_toArray, List.set_cons_zero, List.set_cons_succ, aJ, aK]
               rfl
             refine bf (i := 1) (N := some 47) (v := ?_) (a' := ?_) #[true, true, false, false, false, false, false, false, false, false] rfl rfl (aN dF.out (by kernel_rfl)) (fun _ _ _ h => h) (Or.inl ⟨by rfl, ?_⟩) ?_ ?_
             rotate_left
             · intro w'
               go_simp
               with_reducible rfl
             rotate_left
             · simp only [Act.put, List.setIfInBounds_toArray, List.set_cons_zero, List.set_cons_succ, aJ, aK]
               rfl
             refine bf (i := 3) (N := some 49) (v := ?_) (a' := ?_) #[true, true, false, true, false, false, false, false, false, false] rfl rfl (aN dF.out (by kernel_rfl)) (fun _ _ _ h => h) (Or.inl ⟨by rfl, ?_⟩) ?_ ?_
             rotate_left
             · intro w'
               go_simp
               with_reducible rfl
             rotate_left
             · simp only [Act.put, List.setIfInBounds_toArray, List.set_cons_zero, List.set_cons_succ, aJ, aK]
               rfl
             refine iP (i := 6) (N := some 52) (v := ?_) (a' := ?_) #[true, true, false, true, false, false, true, false, false, false] rfl rfl (eF dF.out pI.out (by kernel_rfl)) (fun _ _ _ h => h) (Or.inl ⟨by rfl, ?_⟩) hHeld ?_ ?_
             rotate_left
             · rintro w' ⟨s0, s1, s2⟩
               go_simp
               with_reducible rfl
             rotate_left
             · simp only [Act.put, List.setIfInBounds_toArray, List.set_cons_zero, List.set_cons_succ, aJ, aK]
               rfl
             refine nC (i := 2) (N := some 48) #[true, true, true, true, false, false, true, false, false, false] rfl rfl (iF dF.out (by kernel_rfl)) (by decide) (fun K hK => ?_)
             refine Kd.Ou (Kd.int .i64) _ 22 ?hg (N := 48) ?hd (xs := ([] : List Int)) (inner := []) (ok := fun _ => True) (NM := fun _ => True) ?hr ?hp (fun _ hk => hk) trivial (Below.refl _ _) (Nat.le_refl _) (by simp) ?_; (case hd => rfl); (case hg => rfl); (case hr => first | (go_simp; done) | (go_simp; rfl)); (case hp => exact (jd.none _ _))
             intro ahH X7 Q8 hb hg_ aaU
             clear hg_ aaU
             (first | rw [← YD.out] at Q8 | (simp only [Int.reduceToNat] at Q8; rw [← YD.out] at Q8))
             have bT := ah.mk (Kd.pG (by (with_reducible repeat (first | apply Kd.bZ | apply Kd.bY | apply Kd.dA)); exact iI.out) (Kd.qK Q8) hb)
             have dD := ah.mk (Kd.jG (Kd.wE Q8 (Kd.Dc (by (with_reducible repeat (first | apply Kd.bZ | apply Kd.bY | apply Kd.dA)); exact iI.out))) (aW (by repeat (first | (with_reducible first | exact HB.out | apply au | apply af | apply ak | refine aG ?_ qM.out | refine aG ?_ vZ.out) | exact HB.out))))
             have dQ := ah.mk (bg (g := fU) (o := .cells #[.int .i64 kM, .int .i64 jI, .slice none 0 0, .int .i64 iH, .int .i64 gW, .slice none 0 0] 28 (0, 0)) (by (with_reducible repeat (first | refine ay ?_ _ | refine aC ?_ | refine az ?_ _)); exact fK.out) hb)
             have eH := ah.mk (bg (g := oN) (o := .cells #[.int .i64 t232, .int .i64 t233, .slice yQ t234.length yF] 26 (0, 0)) (by (with_reducible repeat (first | refine ay ?_ _ | refine aC ?_ | refine az ?_ _)); exact jE.out) hb)
             have iw := ah.mk (aI (by repeat (first | (with_reducible first | exact HB.out | apply au | apply af | apply ak | refine aG ?_ qM.out | refine aG ?_ vZ.out) | exact HB.out)) hb)
             clear iI
             clear fK
             clear jE
             clear HB
             have iI := bT
             have QA := dD
             have fK := dQ
             have jE := eH
             have HB := iw
             clear bT dD dQ eH iw
             clear hb Q8
             refine hK.out _ _ ⟨(aj jE.out 0).trans rfl, (aj jE.out 1).trans rfl, (aj jE.out 2).trans rfl⟩ (fun hHeld => ?_)
             clear hK K
             refine iV (a' := ?_) ?_ ?_
             rotate_left
             · show Act.put _ (some 48) _ = _
               simp only [Act.put, List.setIfInBounds_toArray, List.set_cons_zero, List.set_cons_succ, aJ, aK]
               rfl
             refine nC (i := 4) (N := some 50) #[true, true, true, true, true, false, true, false, false, false] rfl rfl (iF dF.out (by kernel_rfl)) (by decide) (fun K hK => ?_)
             refine Kd.Aj (Kd.int .i64) (w0 := w) w.heap.size (by rfl) (.tmp 48) (.tmp 49) 24 22 (.int .i64 0) 8 rfl Try.underlying24 info22 rfl (by decide) (by omega) ahH J4 l0 _ _ _ (fun k_ => some k_ ≠ (.slice yQ t234.length yF : Value).ownBlock) (fun _ => False) rfl rfl ?aO ?aR (fun _ _ h => h) (fun _ h => h.elim) ?aF ?aB ?aS ?aL ?_
             (case aR => repeat (first | exact (Kd.fB HR0.out HB.out) | (with_reducible refine Kd.fE ?_ _) | (with_reducible refine Kd.fD ?_ _) | (with_reducible refine Kd.gm ?_)))
             (case aB => exact (by repeat (first | (with_reducible first | exact HB.out | apply au | apply af | apply ak | refine aG ?_ qM.out | refine aG ?_ vZ.out) | exact HB.out)))
             (case aF => exact (fun k_ hk => Kd.fresh' (Kd.Dc (by (with_reducible repeat (first | apply Kd.bZ | apply Kd.bY | apply Kd.dA)); exact iI.out)) k_ hk))
             (case aO => exact (by (with_reducible repeat (first | apply Kd.bZ | apply Kd.bY | apply Kd.dA)); exact Kd.fQ QA.out (fun _ hk => hk.2)))
             (case aS => exact (aW (by repeat (first | (with_reducible first | exact HB.out | apply au | apply af | apply ak | refine aG ?_ qM.out | refine aG ?_ vZ.out) | exact HB.out))))
             (case aL => have := acG.out; omega)
             intro am7 X6 ho hb hg hat
             rw [← acB.out] at ho
             have bT := ah.mk (Kd.XI (ok := (fun _ => True)) (by (with_reducible repeat (first | apply Kd.bZ | apply Kd.bY | apply Kd.dA)); exact iI.out) hg hat)
             have dD := ah.mk (ry (g := fU) (o := .cells #[.int .i64 kM, .int .i64 jI, .slice none 0 0, .int .i64 iH, .int .i64 gW, .slice none 0 0] 28 (0, 0)) (by (with_reducible repeat (first | refine ay ?_ _ | refine aC ?_ | refine az ?_ _)); exact fK.out) hg (Kd.wO QA.out fK.out (by decide)))
             have dQ := ah.mk (ry (g := oN) (o := .cells #[.int .i64 t232, .int .i64 t233, .slice yQ t234.length yF] 26 (0, 0)) (by (with_reducible repeat (first | refine ay ?_ _ | refine aC ?_ | refine az ?_ _)); exact jE.out) hg (Kd.wO QA.out jE.out (by decide)))
             have eH := ah.mk (hb)
             have iw := ah.mk (ho)
             clear iI
             clear fK
             clear jE
             clear HB
             clear QA
             have iI := bT
             have fK := dD
             have jE := dQ
             have HB := eH
             have YF := iw
             clear bT dD dQ eH iw
             clear ho hb hg hat
             obtain ⟨SA, RJ, abr⟩ := Kd.iq YF.out
             (first | subst abr | (injection abr with tH zN tC; have zM := tH.symm; have zL := tC.symm; clear tH zN tC; subst zM; subst zL))
             refine hK.out _ _ ⟨(aj jE.out 0).trans rfl, (aj jE.out 1).trans rfl, (aj jE.out 2).trans rfl⟩ (fun hHeld => ?_)
             clear hK K
             refine iV (a' := ?_) ?_ ?_
             rotate_left
             · show Act.put _ (some 50) _ = _
               simp only [Act.put, List.setIfInBounds_toArray, List.set_cons_zero, List.set_cons_succ, aJ, aK]
               rfl
             refine bf (i := 5) (N := some 51) (v := ?_) (a' := ?_) #[true, true, true, true, true, true, true, false, false, false] rfl rfl (aN dF.out (by kernel_rfl)) (fun _ _ _ h => h) (Or.inl ⟨by rfl, ?_⟩) ?_ ?_
             rotate_left
             · intro w'
               go_simp
               with_reducible rfl
             rotate_left
             · simp only [Act.put, List.setIfInBounds_toArray, List.set_cons_zero, List.set_cons_succ, aJ, aK]
               rfl
             refine bf (i := 7) (N := some 53) (v := ?_) (a' := ?_) #[true, true, true, true, true, true, true, true, false, false] rfl rfl (aN dF.out (by kernel_rfl)) (fun _ _ _ h => h) (Or.inl ⟨by rfl, ?_⟩) ?_ ?_
             rotate_left
             · intro w'
               go_simp
               with_reducible rfl
             rotate_left
             · simp only [Act.put, List.setIfInBounds_toArray, List.set_cons_zero, List.set_cons_succ, aJ, aK]
               rfl
             refine nC (i := 8) (N := none) #[true, true, true, true, true, true, true, true, true, false] rfl rfl (iF dF.out (by kernel_rfl)) (by decide) (fun K hK => ?_)
             have anN : X6.cell? ⟨fU, 0, none⟩ = some (.int .i64 kM) := (aj fK.out 0).trans rfl
             have ak_ := aA fK.out 0
             have aea := gu.out
             have aeL := jK.out
             have anM : X6.cell? ⟨fU, 1, none⟩ = some (.int .i64 jI) := (aj fK.out 1).trans rfl
             have ak9 := aA fK.out 1
             have ad_ := gu.out
             have aeK := jK.out
             have anL : X6.cell? ⟨fU, 2, none⟩ = some (.slice none 0 0) := (aj fK.out 2).trans rfl
             have ak8 := aA fK.out 2
             have ad9 := gu.out
             have aeJ := jK.out
             have anK : X6.cell? ⟨fU, 3, none⟩ = some (.int .i64 iH) := (aj fK.out 3).trans rfl
             have ak7 := aA fK.out 3
             have ad8 := gu.out
             have aeI := jK.out
             have anJ : X6.cell? ⟨fU, 4, none⟩ = some (.int .i64 gW) := (aj fK.out 4).trans rfl
             have ak6 := aA fK.out 4
             have ad7 := gu.out
             have aeH := jK.out
             have anI : X6.cell? ⟨fU, 5, none⟩ = some (.slice none 0 0) := (aj fK.out 5).trans rfl
             have ak5 := aA fK.out 5
             have ad6 := gu.out
             have aeG := jK.out
             refine Du (w1 := ?_) (by rfl) rfl ?_ ?_
             rotate_left
             · go_simp
               rfl
             refine hK.out _ _ ⟨((cell_far (p := ⟨fU, _, none⟩) gu.out _).trans (((cell_far (p := ⟨fU, _, none⟩) gu.out _).trans (((cell_far (p := ⟨fU, _, none⟩) gu.out _).trans (((cell_far (p := ⟨fU, _, none⟩) gu.out _).trans (((cell_far (p := ⟨fU, _, none⟩) gu.out _).trans (((cell_far (p := ⟨fU, _, none⟩) gu.out _).trans (hHeld.1)))))))))))), ((cell_far (p := ⟨fU, _, none⟩) gu.out _).trans (((cell_far (p := ⟨fU, _, none⟩) gu.out _).trans (((cell_far (p := ⟨fU, _, none⟩) gu.out _).trans (((cell_far (p := ⟨fU, _, none⟩) gu.out _).trans (((cell_far (p := ⟨fU, _, none⟩) gu.out _).trans (((cell_far (p := ⟨fU, _, none⟩) gu.out _).trans (hHeld.2.1)))))))))))), ((cell_far (p := ⟨fU, _, none⟩) gu.out _).trans (((cell_far (p := ⟨fU, _, none⟩) gu.out _).trans (((cell_far (p := ⟨fU, _, none⟩) gu.out _).trans (((cell_far (p := ⟨fU, _, none⟩) gu.out _).trans (((cell_far (p := ⟨fU, _, none⟩) gu.out _).trans (((cell_far (p := ⟨fU, _, none⟩) gu.out _).trans (hHeld.2.2))))))))))))⟩ (fun hHeld => ?_)
             clear hK K
             refine bf (i := 9) (N := some 5) (v := ?_) (a' := ?_) #[true, true, true, true, true, true, true, true, true, true] rfl rfl (aN dF.out (by kernel_rfl)) (fun _ _ _ h => h) (Or.inl ⟨by rfl, ?_⟩) ?_ ?_
             rotate_left
             · intro w'
               go_simp
               with_reducible rfl
             rotate_left
             · simp only [Act.put, List.setIfInBounds_toArray, List.set_cons_zero, List.set_cons_succ, aJ, aK]
               rfl
             refine tJ (lW dF.out (by kernel_rfl)) ?_
             try go_wp2
             refine bodyPost_ret (lQ rfl _ _ fU 28 #[.int .i64 (l0.length : Int), .int .i64 1, .slice SA MM.length RJ, .int .i64 t232, .int .i64 t233, .slice yQ t234.length yF] (0, 0) _ rfl (by (with_reducible repeat (first | refine ay ?_ _ | refine aC ?_ | refine az ?_ _)); refine bQ (cs := #[.int .i64 (l0.length : Int), .int .i64 1, .slice SA MM.length RJ, .int .i64 t232, .int .i64 t233, .slice none 0 0]) ?_ 5 _ rfl; (with_reducible repeat (first | refine ay ?_ _ | refine aC ?_ | refine az ?_ _)); refine bQ (cs := #[.int .i64 (l0.length : Int), .int .i64 1, .slice SA MM.length RJ, .int .i64 t232, .int .i64 gW, .slice none 0 0]) ?_ 4 _ rfl; (with_reducible repeat (first | refine ay ?_ _ | refine aC ?_ | refine az ?_ _)); refine bQ (cs := #[.int .i64 (l0.length : Int), .int .i64 1, .slice SA MM.length RJ, .int .i64 iH, .int .i64 gW, .slice none 0 0]) ?_ 3 _ rfl; (with_reducible repeat (first | refine ay ?_ _ | refine aC ?_ | refine az ?_ _)); refine bQ (cs := #[.int .i64 (l0.length : Int), .int .i64 1, .slice none 0 0, .int .i64 iH, .int .i64 gW, .slice none 0 0]) ?_ 2 _ rfl; (with_reducible repeat (first | refine ay ?_ _ | refine aC ?_ | refine az ?_ _)); refine bQ (cs := #[.int .i64 (l0.length : Int), .int .i64 jI, .slice none 0 0, .int .i64 iH, .int .i64 gW, .slice none 0 0]) ?_ 1 _ rfl; (with_reducible repeat (first | refine ay ?_ _ | refine aC ?_ | refine az ?_ _)); refine bQ (cs := #[.int .i64 kM, .int .i64 jI, .slice none 0 0, .int .i64 iH, .int .i64 gW, .slice none 0 0]) ?_ 0 _ rfl; (with_reducible repeat (first | refine ay ?_ _ | refine aC ?_ | refine az ?_ _)); exact fK.out) Try.underlying28 rfl (by kernel_rfl)) rfl ?_
             exact ⟨_, _, by first | rfl | (simp [aU, aT] <;> rfl) | (simp [*, aU, aT] <;> rfl), by (with_reducible repeat (first | apply Kd.bZ | apply Kd.bY | apply Kd.dA)); exact Kd.fQ (Kd.dM (p := ⟨fU, 5, none⟩) (Kd.dM (p := ⟨fU, 4, none⟩) (Kd.dM (p := ⟨fU, 3, none⟩) (Kd.dM (p := ⟨fU, 2, none⟩) (Kd.dM (p := ⟨fU, 1, none⟩) (Kd.dM (p := ⟨fU, 0, none⟩) (Kd.iM YF.out fK.out (by decide)) (fun _ hk => hk.2) (.int .i64 (l0.length : Int))) (fun _ hk => hk.2) (.int .i64 1)) (fun _ hk => hk.2) (.slice SA MM.length RJ)) (fun _ hk => hk.2) (.int .i64 t232)) (fun _ hk => hk.2) (.int .i64 t233)) (fun _ hk => hk.2) (.slice yQ t234.length yF)) (fun _ hk => hk.1), by (with_reducible repeat (first | apply Kd.bZ | apply Kd.bY | apply Kd.dA)); exact Kd.fQ (Kd.dM (p := ⟨fU, 5, none⟩) (Kd.dM (p := ⟨fU, 4, none⟩) (Kd.dM (p := ⟨fU, 3, none⟩) (Kd.dM (p := ⟨fU, 2, none⟩) (Kd.dM (p := ⟨fU, 1, none⟩) (Kd.dM (p := ⟨fU, 0, none⟩) (Kd.iM iI.out fK.out (by decide)) (fun _ hk => hk.2) (.int .i64 (l0.length : Int))) (fun _ hk => hk.2) (.int .i64 1)) (fun _ hk => hk.2) (.slice SA MM.length RJ)) (fun _ hk => hk.2) (.int .i64 t232)) (fun _ hk => hk.2) (.int .i64 t233)) (fun _ hk => hk.2) (.slice yQ t234.length yF)) (fun _ hk => hk.1.2), by repeat (first | (with_reducible first | exact HB.out | apply au | apply af | apply ak | refine aG ?_ qM.out | refine aG ?_ vZ.out) | exact HB.out)⟩
           · rw [if_neg c25] at H
             exact absurd H (by simp)
def lK.f (k : Nat) (aQ : Int) (a_ : Int) (aY : List Int) (dw : Int) (dB : Int) (bV : List Int) (dS : Int) (dZ : Int) (dI : List Int) (mO : Int) (mM : Int) (kJ : List Int) : Option (Bool) := (bU.f k aQ a_ aY dS dZ dI).bind fun QJ => (if QJ = true then ((bU.f k dw dB bV mO mM kJ).bind fun Ko => (some Ko)) else (some false))
theorem lK.calls (k : Nat) (aQ : Int) (a_ : Int) (cO : Option Addr) (cu : Nat) (aY : List Int) (dw : Int) (dB : Int) (gp : Option Addr) (fZ : Nat) (bV : List Int) (dS : Int) (dZ : Int) (gY : Option Addr) (g_ : Nat) (dI : List Int) (mO : Int) (mM : Int) (qO : Option Addr) (qP : Nat) (kJ : List Int) (r : Bool) (w : World) (jl : Kd.C (Kd.int .i64) w cO aY.length aY) (jD : aY.length ≤ cu) (vw : Kd.C (Kd.int .i64) w gp bV.length bV) (vK : bV.length ≤ fZ) (oM : Kd.C (Kd.int .i64) w gY dI.length dI) (o9 : dI.length ≤ g_) (DF : Kd.C (Kd.int .i64) w qO kJ.length kJ) (DI : kJ.length ≤ qP) (h : lK.f k aQ a_ aY dw dB bV dS dZ dI mO mM kJ = some r) :
 Calls Try.prog 21 #[.agg #[.int .i64 aQ, .int .i64 a_, .slice cO aY.length cu, .int .i64 dw, .int .i64 dB, .slice gp bV.length fZ], .agg #[.int .i64 dS, .int .i64 dZ, .slice gY dI.length g_, .int .i64 mO, .int .i64 mM, .slice qO kJ.length qP]] w fun e w' => e = .returned (.bool r) ∧ Below w.heap.size w w' := by
 have Q7 := Try.underlying28
 have yz := Try.underlying26
 have kC := ah.mk jl
 have lM := ah.mk jD
 clear jl jD
 have nO := ah.mk vw
 have t_ := ah.mk vK
 clear vw vK
 have tV := ah.mk oM
 have vW := ah.mk o9
 clear oM o9
 have UI := ah.mk DF
 have UN := ah.mk DI
 clear DF DI
 have HB := ah.mk (Below.refl w.heap.size w)
 have H : ((bU.f k aQ a_ aY dS dZ dI).bind fun QJ => (if QJ = true then ((bU.f k dw dB bV mO mM kJ).bind fun Ko => (some Ko)) else (some false))) = some r := h
 clear h
 replace H := Option.bind_eq_some_iff.mp H
 obtain ⟨QJ, xU, H⟩ := H
 replace H : (if QJ = true then ((bU.f k dw dB bV mO mM kJ).bind fun Ko => (some Ko)) else (some false)) = some r := H
 have A3 := ah.mk xU
 clear xU
 by_cases c4 : QJ = true
 · subst c4
   rw [if_pos rfl] at H
   replace H := Option.bind_eq_some_iff.mp H
   obtain ⟨Ko, QD, H⟩ := H
   replace H : (some Ko) = some r := H
   have A5 := ah.mk QD
   clear QD
   obtain rfl := Option.some.inj H
   go_enter Try.func21, Try.ntmps21
   go_wp2_with (first | ((with_reducible refine dY (N := 2) rfl ?_); refine dH ?hg (N := 2) ?hd (cs := #[.int .i64 aQ, .int .i64 a_, .slice cO aY.length cu, .int .i64 dw, .int .i64 dB, .slice gp bV.length fZ]) (t := 28) ?hr ?_; (case hd => rfl); (case hg => rfl); (case hr => first | (go_simp; done) | (go_simp; rfl)); intro jZ hg w6 hbox hb; have bT := ah.mk (aI (by repeat (first | (with_reducible first | exact HB.out | apply au | apply af | apply ak) | exact HB.out)) hb); have dD := ah.mk (hbox); have dQ := ah.mk ((by rw [hg]; exact (aW (by repeat (first | (with_reducible first | exact HB.out | apply au | apply af | apply ak) | exact HB.out))) : w.heap.size ≤ jZ)); have eH := ah.mk ((by rw [hg]; exact (aW (by repeat (first | (with_reducible first | exact HB.out | apply au | apply af | apply ak) | exact HB.out))) : w.heap.size ≤ jZ)); clear HB; have HB := bT; have iD := dD; have ac9 := dQ; have xR := eH; clear bT dD dQ eH; clear hb hbox hg) | ((with_reducible refine dY (N := 3) rfl ?_); refine dH ?hg (N := 3) ?hd (cs := #[.int .i64 dS, .int .i64 dZ, .slice gY dI.length g_, .int .i64 mO, .int .i64 mM, .slice qO kJ.length qP]) (t := 28) ?hr ?_; (case hd => rfl); (case hg => rfl); (case hr => first | (go_simp; done) | (go_simp; rfl)); intro kY hg w7 hbox hb; have bT := ah.mk (bg (g := jZ) (o := .cells #[.int .i64 aQ, .int .i64 a_, .slice cO aY.length cu, .int .i64 dw, .int .i64 dB, .slice gp bV.length fZ] 28 (0, 0)) (by (with_reducible repeat (first | refine ay ?_ _ | refine aC ?_ | refine az ?_ _)); exact iD.out) hb); have dD := ah.mk (aI (by repeat (first | (with_reducible first | exact HB.out | apply au | apply af | apply ak | refine aG ?_ xR.out) | exact HB.out)) hb); have dQ := ah.mk (hbox); have eH := ah.mk ((by rw [hg]; exact (aW (by repeat (first | (with_reducible first | exact HB.out | apply au | apply af | apply ak | refine aG ?_ xR.out) | exact HB.out))) : w.heap.size ≤ kY)); have iw := ah.mk ((by rw [hg]; exact (aW (by repeat (first | (with_reducible first | exact HB.out | apply au | apply af | apply ak | refine aG ?_ xR.out) | exact HB.out))) : w.heap.size ≤ kY)); have iQ := ah.mk ((by rw [hg]; exact Nat.ne_of_lt (dP (g := jZ) (o := .cells #[.int .i64 aQ, .int .i64 a_, .slice cO aY.length cu, .int .i64 dw, .int .i64 dB, .slice gp bV.length fZ] 28 (0, 0)) (by (with_reducible repeat (first | refine ay ?_ _ | refine aC ?_ | refine az ?_ _)); exact iD.out)) : jZ ≠ kY)); have jk := ah.mk ((by rw [hg]; exact Nat.ne_of_gt (dP (g := jZ) (o := .cells #[.int .i64 aQ, .int .i64 a_, .slice cO aY.length cu, .int .i64 dw, .int .i64 dB, .slice gp bV.length fZ] 28 (0, 0)) (by (with_reducible repeat (first | refine ay ?_ _ | refine aC ?_ | refine az ?_ _)); exact iD.out)) : kY ≠ jZ)); clear iD; clear HB; have iD := bT; have HB := dD; have iZ := dQ; have ac8 := eH; have IA := iw; have Dj := iQ; have Di := jk; clear bT dD dQ eH iw iQ jk; clear hb hbox hg; have VB := Dj.out; have VA := Di.out; have qZ : w7.cell? ⟨jZ, 0, none⟩ = some (.int .i64 aQ) := (aj iD.out 0).trans rfl; have sZ : w7.cell? ⟨jZ, 1, none⟩ = some (.int .i64 a_) := (aj iD.out 1).trans rfl; have sW : w7.cell? ⟨jZ, 2, none⟩ = some (.slice cO aY.length cu) := (aj iD.out 2).trans rfl; have Zl : w7.cell? ⟨jZ, 3, none⟩ = some (.int .i64 dw) := (aj iD.out 3).trans rfl; have Zk : w7.cell? ⟨jZ, 4, none⟩ = some (.int .i64 dB) := (aj iD.out 4).trans rfl; have Zj : w7.cell? ⟨jZ, 5, none⟩ = some (.slice gp bV.length fZ) := (aj iD.out 5).trans rfl; have qY := aA iD.out 0; have sS := aA iD.out 1; have sQ := aA iD.out 2; have Zh := aA iD.out 3; have Zg := aA iD.out 4; have Zf := aA iD.out 5; have pX : w7.cell? ⟨kY, 0, none⟩ = some (.int .i64 dS) := (aj iZ.out 0).trans rfl; have pW : w7.cell? ⟨kY, 1, none⟩ = some (.int .i64 dZ) := (aj iZ.out 1).trans rfl; have pV : w7.cell? ⟨kY, 2, none⟩ = some (.slice gY dI.length g_) := (aj iZ.out 2).trans rfl; have um : w7.cell? ⟨kY, 3, none⟩ = some (.int .i64 mO) := (aj iZ.out 3).trans rfl; have uk : w7.cell? ⟨kY, 4, none⟩ = some (.int .i64 mM) := (aj iZ.out 4).trans rfl; have uj : w7.cell? ⟨kY, 5, none⟩ = some (.slice qO kJ.length qP) := (aj iZ.out 5).trans rfl; have pU := aA iZ.out 0; have pR := aA iZ.out 1; have pO := aA iZ.out 2; have uh := aA iZ.out 3; have ug := aA iZ.out 4; have uf := aA iZ.out 5) | ((with_reducible refine aV (f := 19) rfl ?_); refine cZ (some 9) rfl rfl Try.func19 (by kernel_rfl) rfl #[.agg #[.int .i64 aQ, .int .i64 a_, .slice cO aY.length cu], .agg #[.int .i64 dS, .int .i64 dZ, .slice gY dI.length g_]] rfl (by (try simp only [List.map_toArray, List.map_cons, List.map_nil]); first | done | rfl | (simp only [List.length_drop, List.length_take]; rfl)) ?_; (with_reducible refine (bU.calls k aQ a_ _ _ aY dS dZ _ _ dI true _ ?eY ?eX ?lZ ?nU A3.out).mono ?_); (case eY => repeat (first | exact (Kd.fB kC.out HB.out) | (with_reducible refine Kd.fE ?_ _) | (with_reducible refine Kd.fD ?_ _) | (with_reducible refine Kd.gm ?_))); (case eX => exact lM.out); (case lZ => repeat (first | exact (Kd.fB tV.out HB.out) | (with_reducible refine Kd.fE ?_ _) | (with_reducible refine Kd.fD ?_ _) | (with_reducible refine Kd.gm ?_))); (case nU => exact vW.out); rintro e wY ⟨rfl, hb⟩; refine ⟨_, rfl, ?_⟩; have bT := ah.mk (bg (g := jZ) (o := .cells #[.int .i64 aQ, .int .i64 a_, .slice cO aY.length cu, .int .i64 dw, .int .i64 dB, .slice gp bV.length fZ] 28 (0, 0)) (by (with_reducible repeat (first | refine ay ?_ _ | refine aC ?_ | refine az ?_ _)); exact iD.out) hb); have dD := ah.mk (bg (g := kY) (o := .cells #[.int .i64 dS, .int .i64 dZ, .slice gY dI.length g_, .int .i64 mO, .int .i64 mM, .slice qO kJ.length qP] 28 (0, 0)) (by (with_reducible repeat (first | refine ay ?_ _ | refine aC ?_ | refine az ?_ _)); exact iZ.out) hb); have dQ := ah.mk (aI (by repeat (first | (with_reducible first | exact HB.out | apply au | apply af | apply ak | refine aG ?_ xR.out | refine aG ?_ IA.out) | exact HB.out)) hb); clear iD; clear iZ; clear HB; have iD := bT; have iZ := dD; have HB := dQ; clear bT dD dQ; (try clear hb); (try clear hb2); (try clear hk); (try clear hi); have nN : wY.cell? ⟨jZ, 0, none⟩ = some (.int .i64 aQ) := (aj iD.out 0).trans rfl; have nM : wY.cell? ⟨jZ, 1, none⟩ = some (.int .i64 a_) := (aj iD.out 1).trans rfl; have nK : wY.cell? ⟨jZ, 2, none⟩ = some (.slice cO aY.length cu) := (aj iD.out 2).trans rfl; have Xw : wY.cell? ⟨jZ, 3, none⟩ = some (.int .i64 dw) := (aj iD.out 3).trans rfl; have Xv : wY.cell? ⟨jZ, 4, none⟩ = some (.int .i64 dB) := (aj iD.out 4).trans rfl; have Xu : wY.cell? ⟨jZ, 5, none⟩ = some (.slice gp bV.length fZ) := (aj iD.out 5).trans rfl; have nJ := aA iD.out 0; have nI := aA iD.out 1; have nH := aA iD.out 2; have WE := aA iD.out 3; have WC := aA iD.out 4; have WB := aA iD.out 5; have EJ : wY.cell? ⟨kY, 0, none⟩ = some (.int .i64 dS) := (aj iZ.out 0).trans rfl; have EI : wY.cell? ⟨kY, 1, none⟩ = some (.int .i64 dZ) := (aj iZ.out 1).trans rfl; have EH : wY.cell? ⟨kY, 2, none⟩ = some (.slice gY dI.length g_) := (aj iZ.out 2).trans rfl; have Xt : wY.cell? ⟨kY, 3, none⟩ = some (.int .i64 mO) := (aj iZ.out 3).trans rfl; have Xr : wY.cell? ⟨kY, 4, none⟩ = some (.int .i64 mM) := (aj iZ.out 4).trans rfl; have Xq : wY.cell? ⟨kY, 5, none⟩ = some (.slice qO kJ.length qP) := (aj iZ.out 5).trans rfl; have ED := aA iZ.out 0; have EC := aA iZ.out 1; have Ez := aA iZ.out 2; have WA := aA iZ.out 3; have Wy := aA iZ.out 4; have Wx := aA iZ.out 5) | (go_at_call 19; (with_reducible refine (bU.calls k dw dB _ _ bV mO mM _ _ kJ Ko _ ?eY ?eX ?lZ ?nU A5.out).mono ?_); (case eY => repeat (first | exact (Kd.fB nO.out HB.out) | (with_reducible refine Kd.fE ?_ _) | (with_reducible refine Kd.fD ?_ _) | (with_reducible refine Kd.gm ?_))); (case eX => exact t_.out); (case lZ => repeat (first | exact (Kd.fB UI.out HB.out) | (with_reducible refine Kd.fE ?_ _) | (with_reducible refine Kd.fD ?_ _) | (with_reducible refine Kd.gm ?_))); (case nU => exact UN.out); rintro e U6 ⟨rfl, hb⟩; have bT := ah.mk (bg (g := jZ) (o := .cells #[.int .i64 aQ, .int .i64 a_, .slice cO aY.length cu, .int .i64 dw, .int .i64 dB, .slice gp bV.length fZ] 28 (0, 0)) (by (with_reducible repeat (first | refine ay ?_ _ | refine aC ?_ | refine az ?_ _)); exact iD.out) hb); have dD := ah.mk (bg (g := kY) (o := .cells #[.int .i64 dS, .int .i64 dZ, .slice gY dI.length g_, .int .i64 mO, .int .i64 mM, .slice qO kJ.length qP] 28 (0, 0)) (by (with_reducible repeat (first | refine ay ?_ _ | refine aC ?_ | refine az ?_ _)); exact iZ.out) hb); have dQ := ah.mk (aI (by repeat (first | (with_reducible first | exact HB.out | apply au | apply af | apply ak | refine aG ?_ xR.out | refine aG ?_ IA.out) | exact HB.out)) hb); clear iD; clear iZ; clear HB; have iD := bT; have iZ := dD; have HB := dQ; clear bT dD dQ; (try clear hb); (try clear hb2); (try clear hk); (try clear hi)))
   go_ret
   exact ⟨by first | rfl | (simp [aU, aT] <;> rfl) | (simp [*, aU, aT] <;> rfl), by repeat (first | (with_reducible first | exact HB.out | apply au | apply af | apply ak | refine aG ?_ xR.out | refine aG ?_ IA.out) | exact HB.out)⟩
 · replace c4 := Bool.eq_false_iff.mpr c4
   subst c4
   have H1 : (some false) = some r := by rw [if_neg (show ¬ (false = true) by decide)] at H; exact H
   clear H
   have H := H1
   clear H1
   obtain rfl := Option.some.inj H
   go_enter Try.func21, Try.ntmps21
   go_wp2_with (first | ((with_reducible refine dY (N := 2) rfl ?_); refine dH ?hg (N := 2) ?hd (cs := #[.int .i64 aQ, .int .i64 a_, .slice cO aY.length cu, .int .i64 dw, .int .i64 dB, .slice gp bV.length fZ]) (t := 28) ?hr ?_; (case hd => rfl); (case hg => rfl); (case hr => first | (go_simp; done) | (go_simp; rfl)); intro jZ hg w15 hbox hb; have bT := ah.mk (aI (by repeat (first | (with_reducible first | exact HB.out | apply au | apply af | apply ak) | exact HB.out)) hb); have dD := ah.mk (hbox); have dQ := ah.mk ((by rw [hg]; exact (aW (by repeat (first | (with_reducible first | exact HB.out | apply au | apply af | apply ak) | exact HB.out))) : w.heap.size ≤ jZ)); have eH := ah.mk ((by rw [hg]; exact (aW (by repeat (first | (with_reducible first | exact HB.out | apply au | apply af | apply ak) | exact HB.out))) : w.heap.size ≤ jZ)); clear HB; have HB := bT; have iD := dD; have ac9 := dQ; have xR := eH; clear bT dD dQ eH; clear hb hbox hg) | ((with_reducible refine dY (N := 3) rfl ?_); refine dH ?hg (N := 3) ?hd (cs := #[.int .i64 dS, .int .i64 dZ, .slice gY dI.length g_, .int .i64 mO, .int .i64 mM, .slice qO kJ.length qP]) (t := 28) ?hr ?_; (case hd => rfl); (case hg => rfl); (case hr => first | (go_simp; done) | (go_simp; rfl)); intro kY hg w16 hbox hb; have bT := ah.mk (bg (g := jZ) (o := .cells #[.int .i64 aQ, .int .i64 a_, .slice cO aY.length cu, .int .i64 dw, .int .i64 dB, .slice gp bV.length fZ] 28 (0, 0)) (by (with_reducible repeat (first | refine ay ?_ _ | refine aC ?_ | refine az ?_ _)); exact iD.out) hb); have dD := ah.mk (aI (by repeat (first | (with_reducible first | exact HB.out | apply au | apply af | apply ak | refine aG ?_ xR.out) | exact HB.out)) hb); have dQ := ah.mk (hbox); have eH := ah.mk ((by rw [hg]; exact (aW (by repeat (first | (with_reducible first | exact HB.out | apply au | apply af | apply ak | refine aG ?_ xR.out) | exact HB.out))) : w.heap.size ≤ kY)); have iw := ah.mk ((by rw [hg]; exact (aW (by repeat (first | (with_reducible first | exact HB.out | apply au | apply af | apply ak | refine aG ?_ xR.out) | exact HB.out))) : w.heap.size ≤ kY)); have iQ := ah.mk ((by rw [hg]; exact Nat.ne_of_lt (dP (g := jZ) (o := .cells #[.int .i64 aQ, .int .i64 a_, .slice cO aY.length cu, .int .i64 dw, .int .i64 dB, .slice gp bV.length fZ] 28 (0, 0)) (by (with_reducible repeat (first | refine ay ?_ _ | refine aC ?_ | refine az ?_ _)); exact iD.out)) : jZ ≠ kY)); have jk := ah.mk ((by rw [hg]; exact Nat.ne_of_gt (dP (g := jZ) (o := .cells #[.int .i64 aQ, .int .i64 a_, .slice cO aY.length cu, .int .i64 dw, .int .i64 dB, .slice gp bV.length fZ] 28 (0, 0)) (by (with_reducible repeat (first | refine ay ?_ _ | refine aC ?_ | refine az ?_ _)); exact iD.out)) : kY ≠ jZ)); clear iD; clear HB; have iD := bT; have HB := dD; have iZ := dQ; have ac8 := eH; have IA := iw; have Dj := iQ; have Di := jk; clear bT dD dQ eH iw iQ jk; clear hb hbox hg; have aa9 := Dj.out; have aa1 := Di.out; have Js : w16.cell? ⟨jZ, 0, none⟩ = some (.int .i64 aQ) := (aj iD.out 0).trans rfl; have Qe : w16.cell? ⟨jZ, 1, none⟩ = some (.int .i64 a_) := (aj iD.out 1).trans rfl; have Qd : w16.cell? ⟨jZ, 2, none⟩ = some (.slice cO aY.length cu) := (aj iD.out 2).trans rfl; have Xm : w16.cell? ⟨jZ, 3, none⟩ = some (.int .i64 dw) := (aj iD.out 3).trans rfl; have Xl : w16.cell? ⟨jZ, 4, none⟩ = some (.int .i64 dB) := (aj iD.out 4).trans rfl; have Xk : w16.cell? ⟨jZ, 5, none⟩ = some (.slice gp bV.length fZ) := (aj iD.out 5).trans rfl; have Ji := aA iD.out 0; have PT := aA iD.out 1; have PS := aA iD.out 2; have Wq := aA iD.out 3; have Wp := aA iD.out 4; have Wn := aA iD.out 5; have Qc : w16.cell? ⟨kY, 0, none⟩ = some (.int .i64 dS) := (aj iZ.out 0).trans rfl; have Qb : w16.cell? ⟨kY, 1, none⟩ = some (.int .i64 dZ) := (aj iZ.out 1).trans rfl; have Qa : w16.cell? ⟨kY, 2, none⟩ = some (.slice gY dI.length g_) := (aj iZ.out 2).trans rfl; have Xj : w16.cell? ⟨kY, 3, none⟩ = some (.int .i64 mO) := (aj iZ.out 3).trans rfl; have Xi : w16.cell? ⟨kY, 4, none⟩ = some (.int .i64 mM) := (aj iZ.out 4).trans rfl; have Xh : w16.cell? ⟨kY, 5, none⟩ = some (.slice qO kJ.length qP) := (aj iZ.out 5).trans rfl; have PO := aA iZ.out 0; have PN := aA iZ.out 1; have PM := aA iZ.out 2; have Wl := aA iZ.out 3; have Wj := aA iZ.out 4; have Wi := aA iZ.out 5) | ((with_reducible refine aV (f := 19) rfl ?_); refine cZ (some 9) rfl rfl Try.func19 (by kernel_rfl) rfl #[.agg #[.int .i64 aQ, .int .i64 a_, .slice cO aY.length cu], .agg #[.int .i64 dS, .int .i64 dZ, .slice gY dI.length g_]] rfl (by (try simp only [List.map_toArray, List.map_cons, List.map_nil]); first | done | rfl | (simp only [List.length_drop, List.length_take]; rfl)) ?_; (with_reducible refine (bU.calls k aQ a_ _ _ aY dS dZ _ _ dI false _ ?eY ?eX ?lZ ?nU A3.out).mono ?_); (case eY => repeat (first | exact (Kd.fB kC.out HB.out) | (with_reducible refine Kd.fE ?_ _) | (with_reducible refine Kd.fD ?_ _) | (with_reducible refine Kd.gm ?_))); (case eX => exact lM.out); (case lZ => repeat (first | exact (Kd.fB tV.out HB.out) | (with_reducible refine Kd.fE ?_ _) | (with_reducible refine Kd.fD ?_ _) | (with_reducible refine Kd.gm ?_))); (case nU => exact vW.out); rintro e w20 ⟨rfl, hb⟩; refine ⟨_, rfl, ?_⟩; have bT := ah.mk (bg (g := jZ) (o := .cells #[.int .i64 aQ, .int .i64 a_, .slice cO aY.length cu, .int .i64 dw, .int .i64 dB, .slice gp bV.length fZ] 28 (0, 0)) (by (with_reducible repeat (first | refine ay ?_ _ | refine aC ?_ | refine az ?_ _)); exact iD.out) hb); have dD := ah.mk (bg (g := kY) (o := .cells #[.int .i64 dS, .int .i64 dZ, .slice gY dI.length g_, .int .i64 mO, .int .i64 mM, .slice qO kJ.length qP] 28 (0, 0)) (by (with_reducible repeat (first | refine ay ?_ _ | refine aC ?_ | refine az ?_ _)); exact iZ.out) hb); have dQ := ah.mk (aI (by repeat (first | (with_reducible first | exact HB.out | apply au | apply af | apply ak | refine aG ?_ xR.out | refine aG ?_ IA.out) | exact HB.out)) hb); clear iD; clear iZ; clear HB; have iD := bT; have iZ := dD; have HB := dQ; clear bT dD dQ; (try clear hb); (try clear hb2); (try clear hk); (try clear hi)))
   go_ret
   exact ⟨by first | rfl | (simp [aU, aT] <;> rfl) | (simp [*, aU, aT] <;> rfl), by repeat (first | (with_reducible first | exact HB.out | apply au | apply af | apply ak | refine aG ?_ xR.out | refine aG ?_ IA.out) | exact HB.out)⟩
mutual
def bP.j0 : Nat → Int → Int → Option (Int)
 | 0, _, _ => none
 | k + 1, x0, x1 => bP.l0 k x0 x1 1 0
def bP.l0 : Nat → Int → Int → Int → Int → Option (Int)
 | 0, _, _, _, _ => none
 | k + 1, x0, x1, x5, x6 => if x6 < x1 then (bP.l0 k x0 x1 (wrap64 (x5 * 2)) (wrap64 (x6 + 1))) else (if x5 = 0 then (none) else (if (Int.tmod x0 x5) < 0 then (if (wrap64 ((Int.tmod x0 x5) + x5)) > (wrap64 (Int.tdiv x5 2)) then (some (wrap64 ((wrap64 ((wrap64 (Int.tdiv x0 x5)) - 1)) + 1))) else (if (wrap64 ((Int.tmod x0 x5) + x5)) = (wrap64 (Int.tdiv x5 2)) then (if (Int.tmod (wrap64 ((wrap64 (Int.tdiv x0 x5)) - 1)) 2) = 0 then (some (wrap64 ((wrap64 (Int.tdiv x0 x5)) - 1))) else (some (wrap64 ((wrap64 ((wrap64 (Int.tdiv x0 x5)) - 1)) + 1)))) else (some (wrap64 ((wrap64 (Int.tdiv x0 x5)) - 1))))) else (if (Int.tmod x0 x5) > (wrap64 (Int.tdiv x5 2)) then (some (wrap64 ((wrap64 (Int.tdiv x0 x5)) + 1))) else (if (Int.tmod x0 x5) = (wrap64 (Int.tdiv x5 2)) then (if (Int.tmod (wrap64 (Int.tdiv x0 x5)) 2) = 0 then (some (wrap64 (Int.tdiv x0 x5))) else (some (wrap64 ((wrap64 (Int.tdiv x0 x5)) + 1)))) else (some (wrap64 (Int.tdiv x0 x5)))))))
end
def bP.f (k : Nat) (a0 : Int) (a1 : Int) : Option (Int) := if a1 ≤ 0 then (some a0) else (if a1 > 62 then (bP.j0 k a0 62) else (bP.j0 k a0 a1))
theorem bP.Fh : ∀ k, (∀ y0 y1, nT (bP.j0 k y0 y1) (bP.j0 (k + 1) y0 y1)) ∧ (∀ y0 y1 y2 y3, nT (bP.l0 k y0 y1 y2 y3) (bP.l0 (k + 1) y0 y1 y2 y3))
 | 0 => ⟨fun _ _ r h => by simp [bP.j0] at h, fun _ _ _ _ r h => by simp [bP.l0] at h⟩
 | k + 1 => by
   obtain ⟨NU, ih1⟩ := bP.Fh k
   refine ⟨?_, ?_⟩
   · intro y0 y1
     unfold bP.j0
     repeat' first
     | (with_reducible exact NU _ _)
     | (with_reducible exact ih1 _ _ _ _)
     | (with_reducible exact nT.refl _)
     | (with_reducible exact nT.none _)
     | (with_reducible refine nT.ite ?_ ?_)
     | (with_reducible refine nT.bind ?_ (fun _ => ?_))
     | exact NU _ _
     | exact ih1 _ _ _ _
     | exact nT.none _
     | refine nT.ite ?_ ?_
     | refine nT.bind ?_ (fun _ => ?_)
   · intro y0 y1 y2 y3
     unfold bP.l0
     repeat' first
     | (with_reducible exact NU _ _)
     | (with_reducible exact ih1 _ _ _ _)
     | (with_reducible exact nT.refl _)
     | (with_reducible exact nT.none _)
     | (with_reducible refine nT.ite ?_ ?_)
     | (with_reducible refine nT.bind ?_ (fun _ => ?_))
     | exact NU _ _
     | exact ih1 _ _ _ _
     | exact nT.none _
     | refine nT.ite ?_ ?_
     | refine nT.bind ?_ (fun _ => ?_)
theorem bP.mono : ∀ a0 a1 k, nT (bP.f k a0 a1) (bP.f (k + 1) a0 a1) := by
 intro a0 a1 k
 obtain ⟨NU, ih1⟩ := bP.Fh k
 unfold bP.f
 repeat' first
  | (with_reducible exact NU _ _)
  | (with_reducible exact ih1 _ _ _ _)
  | (with_reducible exact nT.refl _)
  | (with_reducible exact nT.none _)
  | (with_reducible refine nT.ite ?_ ?_)
  | (with_reducible refine nT.bind ?_ (fun _ => ?_))
  | exact NU _ _
  | exact ih1 _ _ _ _
  | exact nT.none _
  | refine nT.ite ?_ ?_
  | refine nT.bind ?_ (fun _ => ?_)
theorem bP.calls (k : Nat) (a0 : Int) (a1 : Int) (r : Int) (w : World) (h : bP.f k a0 a1 = some r) :
 Calls Try.prog 81 #[.int .i64 a0, .int .i64 a1] w fun e w' => e = .returned (.int .i64 r) ∧ dK w w' := by
 have H : (if a1 ≤ 0 then (some a0) else (if a1 > 62 then (bP.j0 k a0 62) else (bP.j0 k a0 a1))) = some r := h
 clear h
 by_cases c3 : a1 ≤ 0
 · rw [if_pos c3] at H
   have RS : decide (a1 ≤ 0) = true := decide_eq_true c3
   clear c3
   obtain rfl := Option.some.inj H
   go_enter Try.func81, Try.ntmps81
   go_wp2
   go_ret
   exact ⟨by first | rfl | (simp; done) | (simp [*]; done), by repeat (first | exact dK.refl _ | apply dK.step)⟩
 · rw [if_neg c3] at H
   have RS : decide (a1 ≤ 0) = false := decide_eq_false c3
   clear c3
   have Oy := ah.mk H
   clear H
   go_enter Try.func81, Try.ntmps81
   go_upto_if 13 with (fail)
   go_cut [1] (fun v1 wc => ∃ (kq : Nat) (MN : Int), v1 = .int .i64 MN ∧ ah (bP.j0 kq a0 MN = some r) ∧ ah (kq ≤ k) ∧ dK w wc)
   case first =>
    have H := Oy.out
    clear Oy
    by_cases c5 : a1 > 62
    · rw [if_pos c5] at H
      have uT : decide (62 < a1) = true := decide_eq_true c5
      clear c5
      (first | rw [uT] | (simp only [aJ, aK]; rw [uT]) | skip)
      have H' := ah.mk H
      clear H
      go_wp2
      go_meet
      case rel => exact ⟨_, (62), (by first | rfl | (simp; done) | (simp [*]; done)), H', ⟨by first | omega | exact Nat.le_refl _⟩, by repeat (first | exact dK.refl _ | apply dK.step)⟩
    · rw [if_neg c5] at H
      have uT : decide (62 < a1) = false := decide_eq_false c5
      clear c5
      (first | rw [uT] | (simp only [aJ, aK]; rw [uT]) | skip)
      have H' := ah.mk H
      clear H
      go_wp2
      go_meet
      case rel => exact ⟨_, (a1), (by first | rfl | (simp; done) | (simp [*]; done)), H', ⟨by first | omega | exact Nat.le_refl _⟩, by repeat (first | exact dK.refl _ | apply dK.step)⟩
   case rest =>
    clear Oy
    try clear p2
    try clear c3
    try clear RS
    try clear c5
    try clear uT
    obtain ⟨kq, MN, rfl, HA, UK, ⟨mc3, rfl⟩⟩ := hcut
    cases kq with
    | zero => exact absurd HA.out (by simp [bP.j0])
    | succ TC =>
      have H := HA.out
      clear HA
      simp only [bP.j0] at H
      have H' := ah.mk H
      clear H
      go_wp2
      go_loopg [5, 6] TC (fun kq v5 v6 w' => ∃ (gK : Int) (iL : Int), v5 = .int .i64 gK ∧ v6 = .int .i64 iL ∧ ah (bP.l0 kq a0 MN gK iL = some r) ∧ ah (kq ≤ TC) ∧ dK w w')
      case atStart => exact ⟨(1), (0), (by first | rfl | (simp; done) | (simp [*]; done)), (by first | rfl | (simp; done) | (simp [*]; done)), H', ⟨Nat.le_refl _⟩, by repeat (first | exact dK.refl _ | apply dK.step)⟩
      case round =>
       clear H'
       try clear p2
       try clear c3
       try clear RS
       try clear c5
       try clear uT
       try clear p2
       obtain ⟨gK, iL, rfl, rfl, HA, yN, ⟨m2, rfl⟩⟩ := hrel
       cases gk with
       | zero => exact absurd HA.out (by simp [bP.l0])
       | succ k2 =>
         have H := HA.out
         clear HA
         simp only [bP.l0] at H
         by_cases c6 : iL < MN
         · rw [if_pos c6] at H
           have wC : decide (iL < MN) = true := decide_eq_true c6
           clear c6
           have H' := ah.mk H
           clear H
           go_wp2
           go_roundg k2
           case measure => have := UK.out; have := yN.out; omega
           case rel => exact ⟨(wrap64 (gK * 2)), (wrap64 (iL + 1)), (by first | rfl | (simp; done) | (simp [*]; done)), (by first | rfl | (simp; done) | (simp [*]; done)), H', ⟨by have := UK.out; have := yN.out; omega⟩, by repeat (first | exact dK.refl _ | apply dK.step)⟩
         · rw [if_neg c6] at H
           have wC : decide (iL < MN) = false := decide_eq_false c6
           clear c6
           by_cases c7 : gK = 0
           · rw [if_pos c7] at H
             exact absurd H (by simp)
           · rw [if_neg c7] at H
             have yG : (gK == 0) = false := beq_eq_false_iff_ne.mpr c7
             have LQ : (gK != 0) = true := bne_iff_ne.mpr c7
             by_cases c8 : (Int.tmod a0 gK) < 0
             · rw [if_pos c8] at H
               have Gm : decide ((Int.tmod a0 gK) < 0) = true := decide_eq_true c8
               clear c8
               by_cases c9 : (wrap64 ((Int.tmod a0 gK) + gK)) > (wrap64 (Int.tdiv gK 2))
               · rw [if_pos c9] at H
                 have BG : decide ((wrap64 (Int.tdiv gK 2)) < (wrap64 ((Int.tmod a0 gK) + gK))) = true := decide_eq_true c9
                 clear c9
                 obtain rfl := Option.some.inj H
                 go_wp2
                 go_ret
                 exact ⟨by first | rfl | (simp; done) | (simp [*]; done), by repeat (first | exact dK.refl _ | apply dK.step)⟩
               · rw [if_neg c9] at H
                 have BG : decide ((wrap64 (Int.tdiv gK 2)) < (wrap64 ((Int.tmod a0 gK) + gK))) = false := decide_eq_false c9
                 clear c9
                 by_cases c10 : (wrap64 ((Int.tmod a0 gK) + gK)) = (wrap64 (Int.tdiv gK 2))
                 · rw [if_pos c10] at H
                   have yH : ((wrap64 ((Int.tmod a0 gK) + gK)) == (wrap64 (Int.tdiv gK 2))) = true := beq_iff_eq.mpr c10
                   have Gq : ((wrap64 ((Int.tmod a0 gK) + gK)) != (wrap64 (Int.tdiv gK 2))) = false := bne_eq_false_iff_eq.mpr c10
                   clear c10
                   by_cases c11 : (Int.tmod (wrap64 ((wrap64 (Int.tdiv a0 gK)) - 1)) 2) = 0
                   · rw [if_pos c11] at H
                     have qJ : ((Int.tmod (wrap64 ((wrap64 (Int.tdiv a0 gK)) - 1)) 2) == 0) = true := beq_iff_eq.mpr c11
                     have BJ : ((Int.tmod (wrap64 ((wrap64 (Int.tdiv a0 gK)) - 1)) 2) != 0) = false := bne_eq_false_iff_eq.mpr c11
                     clear c11
                     obtain rfl := Option.some.inj H
                     go_wp2
                     go_ret
                     exact ⟨by first | rfl | (simp; done) | (simp [*]; done), by repeat (first | exact dK.refl _ | apply dK.step)⟩
                   · rw [if_neg c11] at H
                     have qJ : ((Int.tmod (wrap64 ((wrap64 (Int.tdiv a0 gK)) - 1)) 2) == 0) = false := beq_eq_false_iff_ne.mpr c11
                     have BJ : ((Int.tmod (wrap64 ((wrap64 (Int.tdiv a0 gK)) - 1)) 2) != 0) = true := bne_iff_ne.mpr c11
                     obtain rfl := Option.some.inj H
                     go_wp2
                     go_ret
                     exact ⟨by first | rfl | (simp; done) | (simp [*]; done), by repeat (first | exact dK.refl _ | apply dK.step)⟩
                 · rw [if_neg c10] at H
                   have yH : ((wrap64 ((Int.tmod a0 gK) + gK)) == (wrap64 (Int.tdiv gK 2))) = false := beq_eq_false_iff_ne.mpr c10
                   have Gq : ((wrap64 ((Int.tmod a0 gK) + gK)) != (wrap64 (Int.tdiv gK 2))) = true := bne_iff_ne.mpr c10
                   obtain rfl := Option.some.inj H
                   go_wp2
                   go_ret
                   exact ⟨by first | rfl | (simp; done) | (simp [*]; done), by repeat (first | exact dK.refl _ | apply dK.step)⟩
             · rw [if_neg c8] at H
               have Gm : decide ((Int.tmod a0 gK) < 0) = false := decide_eq_false c8
               clear c8
               by_cases c12 : (Int.tmod a0 gK) > (wrap64 (Int.tdiv gK 2))
               · rw [if_pos c12] at H
                 have Ut : decide ((wrap64 (Int.tdiv gK 2)) < (Int.tmod a0 gK)) = true := decide_eq_true c12
                 clear c12
                 obtain rfl := Option.some.inj H
                 go_wp2
                 go_ret
                 exact ⟨by first | rfl | (simp; done) | (simp [*]; done), by repeat (first | exact dK.refl _ | apply dK.step)⟩
               · rw [if_neg c12] at H
                 have Ut : decide ((wrap64 (Int.tdiv gK 2)) < (Int.tmod a0 gK)) = false := decide_eq_false c12
                 clear c12
                 by_cases c13 : (Int.tmod a0 gK) = (wrap64 (Int.tdiv gK 2))
                 · rw [if_pos c13] at H
                   have tN : ((Int.tmod a0 gK) == (wrap64 (Int.tdiv gK 2))) = true := beq_iff_eq.mpr c13
                   have Ig : ((Int.tmod a0 gK) != (wrap64 (Int.tdiv gK 2))) = false := bne_eq_false_iff_eq.mpr c13
                   clear c13
                   by_cases c14 : (Int.tmod (wrap64 (Int.tdiv a0 gK)) 2) = 0
                   · rw [if_pos c14] at H
                     have oQ : ((Int.tmod (wrap64 (Int.tdiv a0 gK)) 2) == 0) = true := beq_iff_eq.mpr c14
                     have vO : ((Int.tmod (wrap64 (Int.tdiv a0 gK)) 2) != 0) = false := bne_eq_false_iff_eq.mpr c14
                     clear c14
                     obtain rfl := Option.some.inj H
                     go_wp2
                     go_ret
                     exact ⟨by first | rfl | (simp; done) | (simp [*]; done), by repeat (first | exact dK.refl _ | apply dK.step)⟩
                   · rw [if_neg c14] at H
                     have oQ : ((Int.tmod (wrap64 (Int.tdiv a0 gK)) 2) == 0) = false := beq_eq_false_iff_ne.mpr c14
                     have vO : ((Int.tmod (wrap64 (Int.tdiv a0 gK)) 2) != 0) = true := bne_iff_ne.mpr c14
                     obtain rfl := Option.some.inj H
                     go_wp2
                     go_ret
                     exact ⟨by first | rfl | (simp; done) | (simp [*]; done), by repeat (first | exact dK.refl _ | apply dK.step)⟩
                 · rw [if_neg c13] at H
                   have tN : ((Int.tmod a0 gK) == (wrap64 (Int.tdiv gK 2))) = false := beq_eq_false_iff_ne.mpr c13
                   have Ig : ((Int.tmod a0 gK) != (wrap64 (Int.tdiv gK 2))) = true := bne_iff_ne.mpr c13
                   obtain rfl := Option.some.inj H
                   go_wp2
                   go_ret
                   exact ⟨by first | rfl | (simp; done) | (simp [*]; done), by repeat (first | exact dK.refl _ | apply dK.step)⟩
end Go.Proofs.Ytninmcmajbfccaa.PQ

