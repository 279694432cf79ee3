import Derived.Test.YtninmcmajbfccaaY7
import Derived.Test.YtninmcmajbfccaaY5
/- Joined and thinned by a program of this session's own (wip/pack2.py) out of its texts (wip/ of its repo); parts were laid by its own program (wip/print-patch.py over the kit's print) out of the translation; Lean checks all. -/
set_option maxRecDepth 100000
set_option maxHeartbeats 8000000
namespace Go.Proofs.Ytninmcmajbfccaa.PR
open Go.RowKit Go.Proofs.Ytninmcmajbfccaa.PQ Go.Proofs.aH.bK Go.Proofs.aH.dG Go.Proofs.aH.dJ
attribute [local go_sem] jS jQ kT kS ji jh jR jP
set_option linter.unusedVariables false
set_option linter.unusedSimpArgs false
def bn (w0 W : World) (g : Nat) (f0 : Bool) : Prop := W.heap[g]? = some (.cells #[.bool f0] 77 (0, 0)) ∧ w0.heap.size ≤ g
theorem bn.grown {w0 W : World} {g : Nat} {f0 : Bool} {W1 : World} {row : Option Nat} (h : bn w0 W g f0) (hw : W.grownBy W1 row) (hne : some g ≠ row) : bn w0 W1 g f0 := by
 obtain ⟨hb, hg⟩ := h
 exact ⟨ry hb hw hne, hg⟩
theorem bn.below {w0 W : World} {g : Nat} {f0 : Bool} {W1 : World} (h : bn w0 W g f0) (hw : Below W.heap.size W W1) : bn w0 W1 g f0 := h.grown (nV hw none) (by simp)
theorem bn.alloc {w0 W : World} {g : Nat} {f0 : Bool} (h : bn w0 W g f0) (o : Obj) : bn w0 (W.alloc o) g f0 := h.below (au (Below.refl _ _) o)
theorem bn.drewN {w0 W : World} {g : Nat} {f0 : Bool} (h : bn w0 W g f0) (m : Nat) : bn w0 (W.drewN m) g f0 := h
theorem bn.drew {w0 W : World} {g : Nat} {f0 : Bool} (h : bn w0 W g f0) : bn w0 W.drew g f0 := h
theorem bn.apart {w0 W : World} {g : Nat} {f0 : Bool} {α : Type} {d : Kd α} {e : Nat} {base : Nat} {ok : Nat → Prop} {v : Value} {xs : List α} (h : bn w0 W g f0) (ho : d.R e W base ok v xs) (ht : ∀ q, q ∈ e :: d.E → q ≠ 77) : d.R e W base (fun k => ok k ∧ k ≠ g) v xs := by
 obtain ⟨hb, hg⟩ := h
 exact Kd.iM ho hb ht
theorem bn.lt {w0 W : World} {g : Nat} {f0 : Bool} (h : bn w0 W g f0) : g < W.heap.size := by
 obtain ⟨hb, hg⟩ := h
 exact dP hb
theorem bn.ge {w0 W : World} {g : Nat} {f0 : Bool} (h : bn w0 W g f0) : w0.heap.size ≤ g := by
 obtain ⟨hb, hg⟩ := h
 exact hg
theorem bn.far {w0 W : World} {g : Nat} {f0 : Bool} {p : Addr} (h : bn w0 W g f0) (hne : g ≠ p.block) (u : Value) : bn w0 (W.setCell p u) g f0 := by
 obtain ⟨hb, hg⟩ := h
 exact ⟨dL hb hne u, hg⟩
theorem Ie {W : World} {g : Nat} {f0 : Bool} (h : W.heap[g]? = some (.cells #[.bool f0] 77 (0, 0))) : W.cell? ⟨g, 0, none⟩ = some (.bool f0) := (aj h 0).trans rfl
theorem bn.lD {w0 W : World} {g : Nat} {f0 : Bool} (h : bn w0 W g f0) (x : Bool) : bn w0 (W.setCell ⟨g, 0, none⟩ (.bool x)) g x := by
 obtain ⟨hb, hg⟩ := h
 exact ⟨by simpa using Qo hb 0 (.bool x), hg⟩
def gq.f (qX : Bool) (dS : Int) (dZ : Int) (dI : List Int) (a2 : Bool) (a3 : Int) : Option (Int × Int × List Int × Bool) := if qX = true then (some (dS, dZ, dI, true)) else (some (dS, dZ, dI, a2))
theorem gq.calls (g : Nat) (qX : Bool) (dS : Int) (dZ : Int) (wP : Nat → Prop) (MQ : Value) (dI : List Int) (a2 : Bool) (a3 : Int) (r1 : Int) (r2 : Int) (r3 : List Int) (r4 : Bool) (w0 w : World) (hI : bn w0 w g qX) (hB : Below w0.heap.size w0 w) (aaT : Kd.R (Kd.int .i64) 22 w w0.heap.size wP MQ dI) (h : gq.f qX dS dZ dI a2 a3 = some (r1, r2, r3, r4)) :
 Calls Try.prog 45 #[.pointer (some ⟨g, 0, none⟩), .agg #[.int .i64 dS, .int .i64 dZ, MQ], .bool a2, .int .i64 a3] w fun e w' => ∃ wX : Value, e = .returned (.agg #[.int .i64 r1, .int .i64 r2, wX]) ∧ Kd.R (Kd.int .i64) 22 w' w0.heap.size (fun k_ => (wP k_ ∨ w.heap.size ≤ k_)) wX r3 ∧ bn w0 w' g r4 ∧ Below w0.heap.size w0 w' ∧ Kept w w' (fun k_ => (wP k_) ∨ k_ = g) := by
 have yz := Try.underlying26
 have tY := ah.mk (show Kd.R (Kd.int .i64) 22 w w0.heap.size (fun k_ => (wP k_ ∨ w.heap.size ≤ k_)) MQ dI from Kd.fQ aaT (fun k_ hk => (.inl hk)))
 have HI0 := ah.mk hI
 have HL := ah.mk hB.size
 clear hI
 have HK := ah.mk (Kept.refl w (fun k_ => (wP k_) ∨ k_ = g))
 have HW0 := ah.mk hB.size
 have HB := ah.mk hB
 clear hB
 have H : (if qX = true then (some (dS, dZ, dI, true)) else (some (dS, dZ, dI, a2))) = some (r1, r2, r3, r4) := h
 clear h
 by_cases c5 : qX = true
 · subst c5
   rw [if_pos rfl] at H
   simp only [Option.some.injEq, Prod.mk.injEq] at H
   obtain ⟨rfl, rfl, rfl, rfl⟩ := H
   obtain ⟨Ao6, Zx, eo6⟩ := Kd.iq tY.out
   subst eo6
   go_enter Try.func45, Try.ntmps45
   go_wp2_with (first | ((with_reducible refine dY (N := 5) rfl ?_); refine dH ?hg (N := 5) ?hd (cs := #[.int .i64 dS, .int .i64 dZ, .slice Ao6 dI.length Zx]) (t := 26) ?hr ?_; (case hd => rfl); (case hg => rfl); (case hr => first | (go_simp; done) | (go_simp; rfl)); intro ng hg w7 hbox hb; have bT := ah.mk (Kd.iO (by (with_reducible repeat (first | apply Kd.bZ | apply Kd.bY | apply Kd.dA)); exact tY.out) hb); have dD := ah.mk (bn.below (by repeat (first | (with_reducible first | exact HI0.out | apply bn.alloc | apply bn.drewN | apply bn.drew | apply bn.lD) | exact HI0.out)) hb); have dQ := ah.mk (Kept.below (S := (fun k_ => (wP k_) ∨ k_ = g)) (by repeat (first | (with_reducible first | exact HK.out | apply Kept.alloc | apply Kept.drewN | apply Kept.drew | refine Kept.setCell ?_ (.inl (.inr rfl)) _) | exact HK.out)) hb); have eH := ah.mk (aI (by repeat (first | (with_reducible first | exact HB.out | apply au | apply af | apply ak | refine aG ?_ (bn.ge HI0.out)) | exact HB.out)) hb); have iw := ah.mk (hbox); have iQ := ah.mk ((by rw [hg]; exact (by first | exact HK.out.1 | exact (show Kept w _ (fun k_ => (wP k_) ∨ k_ = g) from by repeat (first | (with_reducible first | exact HK.out | apply Kept.alloc | apply Kept.drewN | apply Kept.drew | refine Kept.setCell ?_ (.inl (.inr rfl)) _) | exact HK.out)).1) : w.heap.size ≤ ng)); have jk := ah.mk ((by rw [hg]; exact (aW (by repeat (first | (with_reducible first | exact HB.out | apply au | apply af | apply ak | refine aG ?_ (bn.ge HI0.out)) | exact HB.out))) : w0.heap.size ≤ ng)); have mQ := ah.mk ((by rw [hg]; exact Nat.ne_of_lt (bn.lt (show bn w0 _ g true from by repeat (first | (with_reducible first | exact HI0.out | apply bn.alloc | apply bn.drewN | apply bn.drew | apply bn.lD) | exact HI0.out))) : g ≠ ng)); have qA := ah.mk ((by rw [hg]; exact Nat.ne_of_gt (bn.lt (show bn w0 _ g true from by repeat (first | (with_reducible first | exact HI0.out | apply bn.alloc | apply bn.drewN | apply bn.drew | apply bn.lD) | exact HI0.out))) : ng ≠ g)); clear tY; clear HI0; clear HK; clear HB; have tY := bT; have HI0 := dD; have HK := dQ; have HB := eH; have oH := iw; have Gz := iQ; have GH := jk; have qL := mQ; have JX := qA; clear bT dD dQ eH iw iQ jk mQ qA; clear hb hbox hg) | ((with_reducible refine dY (N := 8) rfl ?_); refine dH ?hg (N := 8) ?hd (cs := #[.int .i64 0, .int .i64 0, .slice none 0 0]) (t := 26) ?hr ?_; (case hd => rfl); (case hg => rfl); (case hr => first | (go_simp; done) | (go_simp; rfl)); intro mg hg w8 hbox hb; have bT := ah.mk (Kd.iO (by (with_reducible repeat (first | apply Kd.bZ | apply Kd.bY | apply Kd.dA)); exact tY.out) hb); have dD := ah.mk (bn.below (by repeat (first | (with_reducible first | exact HI0.out | apply bn.alloc | apply bn.drewN | apply bn.drew | apply bn.lD | refine bn.far ?_ qL.out _) | exact HI0.out)) hb); have dQ := ah.mk (bg (g := ng) (o := .cells #[.int .i64 dS, .int .i64 dZ, .slice Ao6 dI.length Zx] 26 (0, 0)) (by (with_reducible repeat (first | refine ay ?_ _ | refine aC ?_ | refine az ?_ _)); exact oH.out) hb); have eH := ah.mk (Kept.below (S := (fun k_ => (wP k_) ∨ k_ = g)) (by repeat (first | (with_reducible first | exact HK.out | apply Kept.alloc | apply Kept.drewN | apply Kept.drew | refine Kept.setCell ?_ (.inl (.inr rfl)) _ | refine Kept.setCell ?_ (.inr Gz.out) _) | exact HK.out)) hb); have iw := ah.mk (aI (by repeat (first | (with_reducible first | exact HB.out | apply au | apply af | apply ak | refine aG ?_ (bn.ge HI0.out) | refine aG ?_ GH.out) | exact HB.out)) hb); have iQ := ah.mk (hbox); have jk := ah.mk ((by rw [hg]; exact (by first | exact HK.out.1 | exact (show Kept w _ (fun k_ => (wP k_) ∨ k_ = g) from by repeat (first | (with_reducible first | exact HK.out | apply Kept.alloc | apply Kept.drewN | apply Kept.drew | refine Kept.setCell ?_ (.inl (.inr rfl)) _ | refine Kept.setCell ?_ (.inr Gz.out) _) | exact HK.out)).1) : w.heap.size ≤ mg)); have mQ := ah.mk ((by rw [hg]; exact (aW (by repeat (first | (with_reducible first | exact HB.out | apply au | apply af | apply ak | refine aG ?_ (bn.ge HI0.out) | refine aG ?_ GH.out) | exact HB.out))) : w0.heap.size ≤ mg)); have qA := ah.mk ((by rw [hg]; exact Nat.ne_of_lt (dP (g := ng) (o := .cells #[.int .i64 dS, .int .i64 dZ, .slice Ao6 dI.length Zx] 26 (0, 0)) (by (with_reducible repeat (first | refine ay ?_ _ | refine aC ?_ | refine az ?_ _)); exact oH.out)) : ng ≠ mg)); have uD := ah.mk ((by rw [hg]; exact Nat.ne_of_gt (dP (g := ng) (o := .cells #[.int .i64 dS, .int .i64 dZ, .slice Ao6 dI.length Zx] 26 (0, 0)) (by (with_reducible repeat (first | refine ay ?_ _ | refine aC ?_ | refine az ?_ _)); exact oH.out)) : mg ≠ ng)); have kP := ah.mk ((by rw [hg]; exact Nat.ne_of_lt (bn.lt (show bn w0 _ g true from by repeat (first | (with_reducible first | exact HI0.out | apply bn.alloc | apply bn.drewN | apply bn.drew | apply bn.lD | refine bn.far ?_ qL.out _) | exact HI0.out))) : g ≠ mg)); have rU := ah.mk ((by rw [hg]; exact Nat.ne_of_gt (bn.lt (show bn w0 _ g true from by repeat (first | (with_reducible first | exact HI0.out | apply bn.alloc | apply bn.drewN | apply bn.drew | apply bn.lD | refine bn.far ?_ qL.out _) | exact HI0.out))) : mg ≠ g)); clear tY; clear HI0; clear oH; clear HK; clear HB; have tY := bT; have HI0 := dD; have oH := dQ; have HK := eH; have HB := iw; have sD := iQ; have UO := jk; have UU := mQ; have Dq := qA; have Dp := uD; have BP := kP; have BO := rU; clear bT dD dQ eH iw iQ jk mQ qA uD kP rU; clear hb hbox hg; obtain ⟨Z_, aiu⟩ := HI0.out; have qZ := Ie Z_; have qY := aA Z_ 0; clear Z_ aiu; have Pj := Dq.out; have Pg := Dp.out; have Ph := JX.out; have Pe := qL.out; have nN : w8.cell? ⟨ng, 0, none⟩ = some (.int .i64 dS) := (aj oH.out 0).trans rfl; have nM : w8.cell? ⟨ng, 1, none⟩ = some (.int .i64 dZ) := (aj oH.out 1).trans rfl; have nK : w8.cell? ⟨ng, 2, none⟩ = some (.slice Ao6 dI.length Zx) := (aj oH.out 2).trans rfl; have nJ := aA oH.out 0; have nI := aA oH.out 1; have nH := aA oH.out 2; have aa_ := BO.out; have aa2 := BP.out; have Qi : w8.cell? ⟨mg, 0, none⟩ = some (.int .i64 0) := (aj sD.out 0).trans rfl; have Qh : w8.cell? ⟨mg, 1, none⟩ = some (.int .i64 0) := (aj sD.out 1).trans rfl; have Qg : w8.cell? ⟨mg, 2, none⟩ = some (.slice none 0 0) := (aj sD.out 2).trans rfl; have PW := aA sD.out 0; have PV := aA sD.out 1; have PU := aA sD.out 2))
   refine bodyPost_ret (results_cell_row rfl _ _ mg 26 #[.int .i64 dS, .int .i64 dZ, .slice Ao6 dI.length Zx] (0, 0) _ rfl (by (with_reducible repeat (first | refine ay ?_ _ | refine aC ?_ | refine az ?_ _)); refine bQ (cs := #[.int .i64 dS, .int .i64 dZ, .slice none 0 0]) ?_ 2 _ rfl; (with_reducible repeat (first | refine ay ?_ _ | refine aC ?_ | refine az ?_ _)); refine bQ (cs := #[.int .i64 dS, .int .i64 0, .slice none 0 0]) ?_ 1 _ rfl; (with_reducible repeat (first | refine ay ?_ _ | refine aC ?_ | refine az ?_ _)); refine bQ (cs := #[.int .i64 0, .int .i64 0, .slice none 0 0]) ?_ 0 _ rfl; (with_reducible repeat (first | refine ay ?_ _ | refine aC ?_ | refine az ?_ _)); refine dL ?_ BO.out _; (with_reducible repeat (first | refine ay ?_ _ | refine aC ?_ | refine az ?_ _)); exact sD.out) Try.underlying26 rfl (by kernel_rfl)) rfl ?_
   exact ⟨_, by first | rfl | (simp [aU, aT] <;> rfl) | (simp [*, aU, aT] <;> rfl), by (with_reducible repeat (first | apply Kd.bZ | apply Kd.bY | apply Kd.dA)); exact Kd.fQ (Kd.dM (p := ⟨mg, 2, none⟩) (Kd.dM (p := ⟨mg, 1, none⟩) (Kd.dM (p := ⟨mg, 0, none⟩) (Kd.dM (p := ⟨g, 0, none⟩) (Kd.iM (bn.apart HI0.out tY.out (by decide)) sD.out (by decide)) (fun _ hk => hk.1.2) (.bool true)) (fun _ hk => hk.2) (.int .i64 dS)) (fun _ hk => hk.2) (.int .i64 dZ)) (fun _ hk => hk.2) (.slice Ao6 dI.length Zx)) (fun _ hk => hk.1.1), by repeat (first | (with_reducible first | exact HI0.out | apply bn.alloc | apply bn.drewN | apply bn.drew | apply bn.lD | refine bn.far ?_ qL.out _ | refine bn.far ?_ BP.out _) | exact HI0.out), by repeat (first | (with_reducible first | exact HB.out | apply au | apply af | apply ak | refine aG ?_ (bn.ge HI0.out) | refine aG ?_ GH.out | refine aG ?_ UU.out) | exact HB.out), by repeat (first | (with_reducible first | exact HK.out | apply Kept.alloc | apply Kept.drewN | apply Kept.drew | refine Kept.setCell ?_ (.inl (.inr rfl)) _ | refine Kept.setCell ?_ (.inr Gz.out) _ | refine Kept.setCell ?_ (.inr UO.out) _) | exact HK.out)⟩
 · replace c5 := Bool.eq_false_iff.mpr c5
   subst c5
   have H1 : (some (dS, dZ, dI, a2)) = some (r1, r2, r3, r4) := by rw [if_neg (show ¬ (false = true) by decide)] at H; exact H
   clear H
   have H := H1
   clear H1
   simp only [Option.some.injEq, Prod.mk.injEq] at H
   obtain ⟨rfl, rfl, rfl, rfl⟩ := H
   obtain ⟨OD, Og, aiV⟩ := Kd.iq tY.out
   subst aiV
   go_enter Try.func45, Try.ntmps45
   go_wp2_with (first | ((with_reducible refine dY (N := 5) rfl ?_); refine dH ?hg (N := 5) ?hd (cs := #[.int .i64 dS, .int .i64 dZ, .slice OD dI.length Og]) (t := 26) ?hr ?_; (case hd => rfl); (case hg => rfl); (case hr => first | (go_simp; done) | (go_simp; rfl)); intro ng hg w16 hbox hb; have bT := ah.mk (Kd.iO (by (with_reducible repeat (first | apply Kd.bZ | apply Kd.bY | apply Kd.dA)); exact tY.out) hb); have dD := ah.mk (bn.below (by repeat (first | (with_reducible first | exact HI0.out | apply bn.alloc | apply bn.drewN | apply bn.drew | apply bn.lD) | exact HI0.out)) hb); have dQ := ah.mk (Kept.below (S := (fun k_ => (wP k_) ∨ k_ = g)) (by repeat (first | (with_reducible first | exact HK.out | apply Kept.alloc | apply Kept.drewN | apply Kept.drew | refine Kept.setCell ?_ (.inl (.inr rfl)) _) | exact HK.out)) hb); have eH := ah.mk (aI (by repeat (first | (with_reducible first | exact HB.out | apply au | apply af | apply ak | refine aG ?_ (bn.ge HI0.out)) | exact HB.out)) hb); have iw := ah.mk (hbox); have iQ := ah.mk ((by rw [hg]; exact (by first | exact HK.out.1 | exact (show Kept w _ (fun k_ => (wP k_) ∨ k_ = g) from by repeat (first | (with_reducible first | exact HK.out | apply Kept.alloc | apply Kept.drewN | apply Kept.drew | refine Kept.setCell ?_ (.inl (.inr rfl)) _) | exact HK.out)).1) : w.heap.size ≤ ng)); have jk := ah.mk ((by rw [hg]; exact (aW (by repeat (first | (with_reducible first | exact HB.out | apply au | apply af | apply ak | refine aG ?_ (bn.ge HI0.out)) | exact HB.out))) : w0.heap.size ≤ ng)); have mQ := ah.mk ((by rw [hg]; exact Nat.ne_of_lt (bn.lt (show bn w0 _ g false from by repeat (first | (with_reducible first | exact HI0.out | apply bn.alloc | apply bn.drewN | apply bn.drew | apply bn.lD) | exact HI0.out))) : g ≠ ng)); have qA := ah.mk ((by rw [hg]; exact Nat.ne_of_gt (bn.lt (show bn w0 _ g false from by repeat (first | (with_reducible first | exact HI0.out | apply bn.alloc | apply bn.drewN | apply bn.drew | apply bn.lD) | exact HI0.out))) : ng ≠ g)); clear tY; clear HI0; clear HK; clear HB; have tY := bT; have HI0 := dD; have HK := dQ; have HB := eH; have oH := iw; have Gz := iQ; have GH := jk; have qL := mQ; have JX := qA; clear bT dD dQ eH iw iQ jk mQ qA; clear hb hbox hg) | ((with_reducible refine dY (N := 8) rfl ?_); refine dH ?hg (N := 8) ?hd (cs := #[.int .i64 0, .int .i64 0, .slice none 0 0]) (t := 26) ?hr ?_; (case hd => rfl); (case hg => rfl); (case hr => first | (go_simp; done) | (go_simp; rfl)); intro mg hg X9 hbox hb; have bT := ah.mk (Kd.iO (by (with_reducible repeat (first | apply Kd.bZ | apply Kd.bY | apply Kd.dA)); exact tY.out) hb); have dD := ah.mk (bn.below (by repeat (first | (with_reducible first | exact HI0.out | apply bn.alloc | apply bn.drewN | apply bn.drew | apply bn.lD | refine bn.far ?_ qL.out _) | exact HI0.out)) hb); have dQ := ah.mk (bg (g := ng) (o := .cells #[.int .i64 dS, .int .i64 dZ, .slice OD dI.length Og] 26 (0, 0)) (by (with_reducible repeat (first | refine ay ?_ _ | refine aC ?_ | refine az ?_ _)); exact oH.out) hb); have eH := ah.mk (Kept.below (S := (fun k_ => (wP k_) ∨ k_ = g)) (by repeat (first | (with_reducible first | exact HK.out | apply Kept.alloc | apply Kept.drewN | apply Kept.drew | refine Kept.setCell ?_ (.inl (.inr rfl)) _ | refine Kept.setCell ?_ (.inr Gz.out) _) | exact HK.out)) hb); have iw := ah.mk (aI (by repeat (first | (with_reducible first | exact HB.out | apply au | apply af | apply ak | refine aG ?_ (bn.ge HI0.out) | refine aG ?_ GH.out) | exact HB.out)) hb); have iQ := ah.mk (hbox); have jk := ah.mk ((by rw [hg]; exact (by first | exact HK.out.1 | exact (show Kept w _ (fun k_ => (wP k_) ∨ k_ = g) from by repeat (first | (with_reducible first | exact HK.out | apply Kept.alloc | apply Kept.drewN | apply Kept.drew | refine Kept.setCell ?_ (.inl (.inr rfl)) _ | refine Kept.setCell ?_ (.inr Gz.out) _) | exact HK.out)).1) : w.heap.size ≤ mg)); have mQ := ah.mk ((by rw [hg]; exact (aW (by repeat (first | (with_reducible first | exact HB.out | apply au | apply af | apply ak | refine aG ?_ (bn.ge HI0.out) | refine aG ?_ GH.out) | exact HB.out))) : w0.heap.size ≤ mg)); have qA := ah.mk ((by rw [hg]; exact Nat.ne_of_lt (dP (g := ng) (o := .cells #[.int .i64 dS, .int .i64 dZ, .slice OD dI.length Og] 26 (0, 0)) (by (with_reducible repeat (first | refine ay ?_ _ | refine aC ?_ | refine az ?_ _)); exact oH.out)) : ng ≠ mg)); have uD := ah.mk ((by rw [hg]; exact Nat.ne_of_gt (dP (g := ng) (o := .cells #[.int .i64 dS, .int .i64 dZ, .slice OD dI.length Og] 26 (0, 0)) (by (with_reducible repeat (first | refine ay ?_ _ | refine aC ?_ | refine az ?_ _)); exact oH.out)) : mg ≠ ng)); have kP := ah.mk ((by rw [hg]; exact Nat.ne_of_lt (bn.lt (show bn w0 _ g false from by repeat (first | (with_reducible first | exact HI0.out | apply bn.alloc | apply bn.drewN | apply bn.drew | apply bn.lD | refine bn.far ?_ qL.out _) | exact HI0.out))) : g ≠ mg)); have rU := ah.mk ((by rw [hg]; exact Nat.ne_of_gt (bn.lt (show bn w0 _ g false from by repeat (first | (with_reducible first | exact HI0.out | apply bn.alloc | apply bn.drewN | apply bn.drew | apply bn.lD | refine bn.far ?_ qL.out _) | exact HI0.out))) : mg ≠ g)); clear tY; clear HI0; clear oH; clear HK; clear HB; have tY := bT; have HI0 := dD; have oH := dQ; have HK := eH; have HB := iw; have sD := iQ; have UO := jk; have UU := mQ; have Dq := qA; have Dp := uD; have BP := kP; have BO := rU; clear bT dD dQ eH iw iQ jk mQ qA uD kP rU; clear hb hbox hg; obtain ⟨UL, abd⟩ := HI0.out; have Js := Ie UL; have Ji := aA UL 0; clear UL abd; have aa8 := Dq.out; have aa0 := Dp.out; have aa7 := JX.out; have aaZ := qL.out; have Xg : X9.cell? ⟨ng, 0, none⟩ = some (.int .i64 dS) := (aj oH.out 0).trans rfl; have Xf : X9.cell? ⟨ng, 1, none⟩ = some (.int .i64 dZ) := (aj oH.out 1).trans rfl; have Xe : X9.cell? ⟨ng, 2, none⟩ = some (.slice OD dI.length Og) := (aj oH.out 2).trans rfl; have Wh := aA oH.out 0; have We := aA oH.out 1; have V_ := aA oH.out 2; have Yi := BO.out; have Yf := BP.out; have Xd : X9.cell? ⟨mg, 0, none⟩ = some (.int .i64 0) := (aj sD.out 0).trans rfl; have Xc : X9.cell? ⟨mg, 1, none⟩ = some (.int .i64 0) := (aj sD.out 1).trans rfl; have Xb : X9.cell? ⟨mg, 2, none⟩ = some (.slice none 0 0) := (aj sD.out 2).trans rfl; have V9 := aA sD.out 0; have V8 := aA sD.out 1; have V7 := aA sD.out 2))
   refine bodyPost_ret (results_cell_row rfl _ _ mg 26 #[.int .i64 dS, .int .i64 dZ, .slice OD dI.length Og] (0, 0) _ rfl (by (with_reducible repeat (first | refine ay ?_ _ | refine aC ?_ | refine az ?_ _)); refine bQ (cs := #[.int .i64 dS, .int .i64 dZ, .slice none 0 0]) ?_ 2 _ rfl; (with_reducible repeat (first | refine ay ?_ _ | refine aC ?_ | refine az ?_ _)); refine bQ (cs := #[.int .i64 dS, .int .i64 0, .slice none 0 0]) ?_ 1 _ rfl; (with_reducible repeat (first | refine ay ?_ _ | refine aC ?_ | refine az ?_ _)); refine bQ (cs := #[.int .i64 0, .int .i64 0, .slice none 0 0]) ?_ 0 _ rfl; (with_reducible repeat (first | refine ay ?_ _ | refine aC ?_ | refine az ?_ _)); refine dL ?_ BO.out _; (with_reducible repeat (first | refine ay ?_ _ | refine aC ?_ | refine az ?_ _)); exact sD.out) Try.underlying26 rfl (by kernel_rfl)) rfl ?_
   exact ⟨_, by first | rfl | (simp [aU, aT] <;> rfl) | (simp [*, aU, aT] <;> rfl), by (with_reducible repeat (first | apply Kd.bZ | apply Kd.bY | apply Kd.dA)); exact Kd.fQ (Kd.dM (p := ⟨mg, 2, none⟩) (Kd.dM (p := ⟨mg, 1, none⟩) (Kd.dM (p := ⟨mg, 0, none⟩) (Kd.dM (p := ⟨g, 0, none⟩) (Kd.iM (bn.apart HI0.out tY.out (by decide)) sD.out (by decide)) (fun _ hk => hk.1.2) (.bool a2)) (fun _ hk => hk.2) (.int .i64 dS)) (fun _ hk => hk.2) (.int .i64 dZ)) (fun _ hk => hk.2) (.slice OD dI.length Og)) (fun _ hk => hk.1.1), by repeat (first | (with_reducible first | exact HI0.out | apply bn.alloc | apply bn.drewN | apply bn.drew | apply bn.lD | refine bn.far ?_ qL.out _ | refine bn.far ?_ BP.out _) | exact HI0.out), by repeat (first | (with_reducible first | exact HB.out | apply au | apply af | apply ak | refine aG ?_ (bn.ge HI0.out) | refine aG ?_ GH.out | refine aG ?_ UU.out) | exact HB.out), by repeat (first | (with_reducible first | exact HK.out | apply Kept.alloc | apply Kept.drewN | apply Kept.drew | refine Kept.setCell ?_ (.inl (.inr rfl)) _ | refine Kept.setCell ?_ (.inr Gz.out) _ | refine Kept.setCell ?_ (.inr UO.out) _) | exact HK.out)⟩
def fA.f (qX : Bool) (dS : Int) (dZ : Int) (dI : List Int) (qp : Int) (qo : Int) (oK : List Int) : Option (Int × Int × List Int × Bool) := (lU.f dS dZ dI qp qo oK).bind fun oz => ((gq.f qX oz.1 oz.2.1 oz.2.2.1 oz.2.2.2.1 oz.2.2.2.2).bind fun oU => ((jy.f dS dZ dI).bind fun uN => ((lU.f oU.1 oU.2.1 oU.2.2.1 uN.1 uN.2.1 uN.2.2).bind fun lH => ((gq.f oU.2.2.2 lH.1 lH.2.1 lH.2.2.1 lH.2.2.2.1 lH.2.2.2.2).bind fun iG => (some (iG.1, iG.2.1, iG.2.2.1, iG.2.2.2))))))
def fA.T1 : Bool × List (List Nat × List Nat) := (true, [([], []), ([], []), ([], []), ([], []), ([2, 3], [2, 3]), ([4], [4]), ([4], [4]), ([4], [4]), ([1, 5, 6, 7, 4], [1, 5, 6, 7]), ([], []), ([9, 8], [9]), ([8, 10, 10], [8, 10]), ([11], [11]), ([11], [11]), ([11], [11]), ([0, 12, 13, 14, 11], [0, 12, 13, 14]), ([15, 15, 0, 1, 2, 3, 4, 5, 6, 7, 8, 9, 10, 11, 12, 13, 14, 15], [15])])
def fA.B1 : List Nat := [0, 0, 0, 0, 12, 28, 28, 28, 254, 0, 1022, 2046, 4094, 4094, 4094, 32767, 65535]
theorem fA.Va : qy .any (opsOf Try.f48 1) = fA.T1 := by kernel_rfl
theorem fA.Qq : pM fA.T1.2 fA.B1 = true := by kernel_rfl
theorem fA.calls (g : Nat) (qX : Bool) (dS : Int) (dZ : Int) (gY : Option Addr) (g_ : Nat) (dI : List Int) (qp : Int) (qo : Int) (wG : Option Addr) (xE : Nat) (oK : List Int) (r1 : Int) (r2 : Int) (r3 : List Int) (r4 : Bool) (w0 w : World) (hI : bn w0 w g qX) (hB : Below w0.heap.size w0 w) (oM : Kd.C (Kd.int .i64) w gY dI.length dI) (o9 : dI.length ≤ g_) (Lp : ∀ ad, gY = some ad → 0 < dI.length → ad.block ≠ g) (Lc : Kd.C (Kd.int .i64) w wG oK.length oK) (Lr : oK.length ≤ xE) (Lm : ∀ ad, wG = some ad → 0 < oK.length → ad.block ≠ g) (h : fA.f qX dS dZ dI qp qo oK = some (r1, r2, r3, r4)) :
 Calls Try.prog 48 #[.pointer (some ⟨g, 0, none⟩), .agg #[.int .i64 dS, .int .i64 dZ, .slice gY dI.length g_], .agg #[.int .i64 qp, .int .i64 qo, .slice wG oK.length xE]] w fun e w' => ∃ wX : Value, e = .returned (.agg #[.int .i64 r1, .int .i64 r2, wX]) ∧ Kd.R (Kd.int .i64) 22 w' w.heap.size (fun _ => True) wX r3 ∧ bn w0 w' g r4 ∧ Below w0.heap.size w0 w' ∧ dW w w' g none := by
 have yz := Try.underlying26
 have tV := ah.mk oM
 have vW := ah.mk o9
 clear oM o9
 have acW := ah.mk Lc
 have ac3 := ah.mk Lr
 clear Lc Lr
 have HI0 := ah.mk hI
 have HK := ah.mk (dW.refl w g none)
 have HL := ah.mk hB.size
 clear hI
 have HW0 := ah.mk hB.size
 have HB := ah.mk hB
 clear hB
 have H : ((lU.f dS dZ dI qp qo oK).bind fun oz => ((gq.f qX oz.1 oz.2.1 oz.2.2.1 oz.2.2.2.1 oz.2.2.2.2).bind fun oU => ((jy.f dS dZ dI).bind fun uN => ((lU.f oU.1 oU.2.1 oU.2.2.1 uN.1 uN.2.1 uN.2.2).bind fun lH => ((gq.f oU.2.2.2 lH.1 lH.2.1 lH.2.2.1 lH.2.2.2.1 lH.2.2.2.2).bind fun iG => (some (iG.1, iG.2.1, iG.2.2.1, iG.2.2.2))))))) = some (r1, r2, r3, r4) := h
 clear h
 replace H := Option.bind_eq_some_iff.mp H
 obtain ⟨⟨t129, t130, t131, t134, t135⟩, IE, H⟩ := H
 replace H : ((gq.f qX t129 t130 t131 t134 t135).bind fun oU => ((jy.f dS dZ dI).bind fun uN => ((lU.f oU.1 oU.2.1 oU.2.2.1 uN.1 uN.2.1 uN.2.2).bind fun lH => ((gq.f oU.2.2.2 lH.1 lH.2.1 lH.2.2.1 lH.2.2.2.1 lH.2.2.2.2).bind fun iG => (some (iG.1, iG.2.1, iG.2.2.1, iG.2.2.2)))))) = some (r1, r2, r3, r4) := H
 have A4 := ah.mk IE
 clear IE
 replace H := Option.bind_eq_some_iff.mp H
 obtain ⟨⟨t136, t137, t138, t141⟩, QD, H⟩ := H
 replace H : ((jy.f dS dZ dI).bind fun uN => ((lU.f t136 t137 t138 uN.1 uN.2.1 uN.2.2).bind fun lH => ((gq.f t141 lH.1 lH.2.1 lH.2.2.1 lH.2.2.2.1 lH.2.2.2.2).bind fun iG => (some (iG.1, iG.2.1, iG.2.2.1, iG.2.2.2))))) = some (r1, r2, r3, r4) := H
 have A5 := ah.mk QD
 clear QD
 replace H := Option.bind_eq_some_iff.mp H
 obtain ⟨⟨t142, t143, t144⟩, U1, H⟩ := H
 replace H : ((lU.f t136 t137 t138 t142 t143 t144).bind fun lH => ((gq.f t141 lH.1 lH.2.1 lH.2.2.1 lH.2.2.2.1 lH.2.2.2.2).bind fun iG => (some (iG.1, iG.2.1, iG.2.2.1, iG.2.2.2)))) = some (r1, r2, r3, r4) := H
 have A6 := ah.mk U1
 clear U1
 replace H := Option.bind_eq_some_iff.mp H
 obtain ⟨⟨t147, t148, t149, t152, t153⟩, UZ, H⟩ := H
 replace H : ((gq.f t141 t147 t148 t149 t152 t153).bind fun iG => (some (iG.1, iG.2.1, iG.2.2.1, iG.2.2.2))) = some (r1, r2, r3, r4) := H
 have A7 := ah.mk UZ
 clear UZ
 replace H := Option.bind_eq_some_iff.mp H
 obtain ⟨⟨t154, t155, t156, t159⟩, A80, H⟩ := H
 replace H : (some (t154, t155, t156, t159)) = some (r1, r2, r3, r4) := H
 have A8 := ah.mk A80
 clear A80
 simp only [Option.some.injEq, Prod.mk.injEq] at H
 obtain ⟨rfl, rfl, rfl, rfl⟩ := H
 go_enter Try.func48, Try.ntmps48
 try go_wp2_with (first | ((with_reducible refine dY (N := 4) rfl ?_); refine dH ?hg (N := 4) ?hd (cs := #[.int .i64 dS, .int .i64 dZ, .slice gY dI.length g_]) (t := 26) ?hr ?_; (case hd => rfl); (case hg => rfl); (case hr => first | (go_simp; done) | (go_simp; rfl)); intro pq hg w9 hbox hb; have bT := ah.mk (bn.below (by repeat (first | (with_reducible first | exact HI0.out | apply bn.alloc | apply bn.drewN | apply bn.drew | apply bn.lD) | exact HI0.out)) hb); have dD := ah.mk (dW.trans (by repeat (first | (with_reducible first | exact HK.out | apply dW.uA | apply gI | apply ig | apply gJ) | exact HK.out)) (dW.of_below hb g none) (.inl rfl)); have dQ := ah.mk (aI (by repeat (first | (with_reducible first | exact HB.out | apply au | apply af | apply ak | refine aG ?_ (bn.ge HI0.out)) | exact HB.out)) hb); have eH := ah.mk (hbox); have iw := ah.mk ((by rw [hg]; exact (l9 (w := w) (g := g) (row := none) (by repeat (first | (with_reducible first | exact HK.out | apply dW.uA | apply gI | apply ig | apply gJ) | exact HK.out))) : w.heap.size ≤ pq)); have iQ := ah.mk ((Nat.le_trans HW0.out (by rw [hg]; exact (l9 (w := w) (g := g) (row := none) (by repeat (first | (with_reducible first | exact HK.out | apply dW.uA | apply gI | apply ig | apply gJ) | exact HK.out))) : w.heap.size ≤ pq) : w0.heap.size ≤ pq)); have jk := ah.mk ((by rw [hg]; exact Nat.ne_of_lt (bn.lt (show bn w0 _ g qX from by repeat (first | (with_reducible first | exact HI0.out | apply bn.alloc | apply bn.drewN | apply bn.drew | apply bn.lD) | exact HI0.out))) : g ≠ pq)); have mQ := ah.mk ((by rw [hg]; exact Nat.ne_of_gt (bn.lt (show bn w0 _ g qX from by repeat (first | (with_reducible first | exact HI0.out | apply bn.alloc | apply bn.drewN | apply bn.drew | apply bn.lD) | exact HI0.out))) : pq ≠ g)); clear HI0; clear HK; clear HB; have HI0 := bT; have HK := dD; have HB := dQ; have iT := eH; have ql := iw; have D9 := iQ; have p_ := jk; have Qz := mQ; clear bT dD dQ eH iw iQ jk mQ; clear hb hbox hg) | ((with_reducible refine dY (N := 5) rfl ?_); refine dH ?hg (N := 5) ?hd (cs := #[.int .i64 qp, .int .i64 qo, .slice wG oK.length xE]) (t := 26) ?hr ?_; (case hd => rfl); (case hg => rfl); (case hr => first | (go_simp; done) | (go_simp; rfl)); intro qU hg w10 hbox hb; have bT := ah.mk (bn.below (by repeat (first | (with_reducible first | exact HI0.out | apply bn.alloc | apply bn.drewN | apply bn.drew | apply bn.lD | refine bn.far ?_ p_.out _) | exact HI0.out)) hb); have dD := ah.mk (bg (g := pq) (o := .cells #[.int .i64 dS, .int .i64 dZ, .slice gY dI.length g_] 26 (0, 0)) (by (with_reducible repeat (first | refine ay ?_ _ | refine aC ?_ | refine az ?_ _)); exact iT.out) hb); have dQ := ah.mk (dW.trans (by repeat (first | (with_reducible first | exact HK.out | apply dW.uA | apply gI | apply ig | apply gJ | refine eu ?_ ql.out _) | exact HK.out)) (dW.of_below hb g none) (.inl rfl)); have eH := ah.mk (aI (by repeat (first | (with_reducible first | exact HB.out | apply au | apply af | apply ak | refine aG ?_ (bn.ge HI0.out) | refine aG ?_ D9.out) | exact HB.out)) hb); have iw := ah.mk (hbox); have iQ := ah.mk ((by rw [hg]; exact (l9 (w := w) (g := g) (row := none) (by repeat (first | (with_reducible first | exact HK.out | apply dW.uA | apply gI | apply ig | apply gJ | refine eu ?_ ql.out _) | exact HK.out))) : w.heap.size ≤ qU)); have jk := ah.mk ((Nat.le_trans HW0.out (by rw [hg]; exact (l9 (w := w) (g := g) (row := none) (by repeat (first | (with_reducible first | exact HK.out | apply dW.uA | apply gI | apply ig | apply gJ | refine eu ?_ ql.out _) | exact HK.out))) : w.heap.size ≤ qU) : w0.heap.size ≤ qU)); have mQ := ah.mk ((by rw [hg]; exact Nat.ne_of_lt (dP (g := pq) (o := .cells #[.int .i64 dS, .int .i64 dZ, .slice gY dI.length g_] 26 (0, 0)) (by (with_reducible repeat (first | refine ay ?_ _ | refine aC ?_ | refine az ?_ _)); exact iT.out)) : pq ≠ qU)); have qA := ah.mk ((by rw [hg]; exact Nat.ne_of_gt (dP (g := pq) (o := .cells #[.int .i64 dS, .int .i64 dZ, .slice gY dI.length g_] 26 (0, 0)) (by (with_reducible repeat (first | refine ay ?_ _ | refine aC ?_ | refine az ?_ _)); exact iT.out)) : qU ≠ pq)); have uD := ah.mk ((by rw [hg]; exact Nat.ne_of_lt (bn.lt (show bn w0 _ g qX from by repeat (first | (with_reducible first | exact HI0.out | apply bn.alloc | apply bn.drewN | apply bn.drew | apply bn.lD | refine bn.far ?_ p_.out _) | exact HI0.out))) : g ≠ qU)); have kP := ah.mk ((by rw [hg]; exact Nat.ne_of_gt (bn.lt (show bn w0 _ g qX from by repeat (first | (with_reducible first | exact HI0.out | apply bn.alloc | apply bn.drewN | apply bn.drew | apply bn.lD | refine bn.far ?_ p_.out _) | exact HI0.out))) : qU ≠ g)); clear HI0; clear iT; clear HK; clear HB; have HI0 := bT; have iT := dD; have HK := dQ; have HB := eH; have jg := iw; have r_ := iQ; have GG := jk; have aat := mQ; have aas := qA; have uu := uD; have Qy := kP; clear bT dD dQ eH iw iQ jk mQ qA uD kP; clear hb hbox hg) | ((with_reducible refine dY (N := 6) rfl ?_); refine dH ?hg (N := 6) ?hd (cs := #[.int .i64 0, .int .i64 0, .slice none 0 0]) (t := 26) ?hr ?_; (case hd => rfl); (case hg => rfl); (case hr => first | (go_simp; done) | (go_simp; rfl)); intro jT hg wY hbox hb; have bT := ah.mk (bn.below (by repeat (first | (with_reducible first | exact HI0.out | apply bn.alloc | apply bn.drewN | apply bn.drew | apply bn.lD | refine bn.far ?_ p_.out _ | refine bn.far ?_ uu.out _) | exact HI0.out)) hb); have dD := ah.mk (bg (g := pq) (o := .cells #[.int .i64 dS, .int .i64 dZ, .slice gY dI.length g_] 26 (0, 0)) (by (with_reducible repeat (first | refine ay ?_ _ | refine aC ?_ | refine az ?_ _)); exact iT.out) hb); have dQ := ah.mk (bg (g := qU) (o := .cells #[.int .i64 qp, .int .i64 qo, .slice wG oK.length xE] 26 (0, 0)) (by (with_reducible repeat (first | refine ay ?_ _ | refine aC ?_ | refine az ?_ _)); exact jg.out) hb); have eH := ah.mk (dW.trans (by repeat (first | (with_reducible first | exact HK.out | apply dW.uA | apply gI | apply ig | apply gJ | refine eu ?_ ql.out _ | refine eu ?_ r_.out _) | exact HK.out)) (dW.of_below hb g none) (.inl rfl)); have iw := ah.mk (aI (by repeat (first | (with_reducible first | exact HB.out | apply au | apply af | apply ak | refine aG ?_ (bn.ge HI0.out) | refine aG ?_ D9.out | refine aG ?_ GG.out) | exact HB.out)) hb); have iQ := ah.mk (hbox); have jk := ah.mk ((by rw [hg]; exact (l9 (w := w) (g := g) (row := none) (by repeat (first | (with_reducible first | exact HK.out | apply dW.uA | apply gI | apply ig | apply gJ | refine eu ?_ ql.out _ | refine eu ?_ r_.out _) | exact HK.out))) : w.heap.size ≤ jT)); have mQ := ah.mk ((Nat.le_trans HW0.out (by rw [hg]; exact (l9 (w := w) (g := g) (row := none) (by repeat (first | (with_reducible first | exact HK.out | apply dW.uA | apply gI | apply ig | apply gJ | refine eu ?_ ql.out _ | refine eu ?_ r_.out _) | exact HK.out))) : w.heap.size ≤ jT) : w0.heap.size ≤ jT)); have qA := ah.mk ((by rw [hg]; exact Nat.ne_of_lt (dP (g := pq) (o := .cells #[.int .i64 dS, .int .i64 dZ, .slice gY dI.length g_] 26 (0, 0)) (by (with_reducible repeat (first | refine ay ?_ _ | refine aC ?_ | refine az ?_ _)); exact iT.out)) : pq ≠ jT)); have uD := ah.mk ((by rw [hg]; exact Nat.ne_of_gt (dP (g := pq) (o := .cells #[.int .i64 dS, .int .i64 dZ, .slice gY dI.length g_] 26 (0, 0)) (by (with_reducible repeat (first | refine ay ?_ _ | refine aC ?_ | refine az ?_ _)); exact iT.out)) : jT ≠ pq)); have kP := ah.mk ((by rw [hg]; exact Nat.ne_of_lt (dP (g := qU) (o := .cells #[.int .i64 qp, .int .i64 qo, .slice wG oK.length xE] 26 (0, 0)) (by (with_reducible repeat (first | refine ay ?_ _ | refine aC ?_ | refine az ?_ _)); exact jg.out)) : qU ≠ jT)); have rU := ah.mk ((by rw [hg]; exact Nat.ne_of_gt (dP (g := qU) (o := .cells #[.int .i64 qp, .int .i64 qo, .slice wG oK.length xE] 26 (0, 0)) (by (with_reducible repeat (first | refine ay ?_ _ | refine aC ?_ | refine az ?_ _)); exact jg.out)) : jT ≠ qU)); have aaK := ah.mk ((by rw [hg]; exact Nat.ne_of_lt (bn.lt (show bn w0 _ g qX from by repeat (first | (with_reducible first | exact HI0.out | apply bn.alloc | apply bn.drewN | apply bn.drew | apply bn.lD | refine bn.far ?_ p_.out _ | refine bn.far ?_ uu.out _) | exact HI0.out))) : g ≠ jT)); have aaJ := ah.mk ((by rw [hg]; exact Nat.ne_of_gt (bn.lt (show bn w0 _ g qX from by repeat (first | (with_reducible first | exact HI0.out | apply bn.alloc | apply bn.drewN | apply bn.drew | apply bn.lD | refine bn.far ?_ p_.out _ | refine bn.far ?_ uu.out _) | exact HI0.out))) : jT ≠ g)); clear HI0; clear iT; clear jg; clear HK; clear HB; have HI0 := bT; have iT := dD; have jg := dQ; have HK := eH; have HB := iw; have lN := iQ; have vX := jk; have IC := mQ; have lu := qA; have Dn := uD; have lq := kP; have Dl := rU; have zJ := aaK; have Qx := aaJ; clear bT dD dQ eH iw iQ jk mQ qA uD kP rU aaK aaJ; clear hb hbox hg))
 have bT := ah.mk (aC iT.out)
 have dD := ah.mk (aC jg.out)
 have dQ := ah.mk (aC lN.out)
 have eH := ah.mk (bn.drew HI0.out)
 have iw := ah.mk (ig HK.out)
 have iQ := ah.mk (ak HB.out)
 clear iT
 clear jg
 clear lN
 clear HI0
 clear HK
 clear HB
 have iT := bT
 have jg := dD
 have lN := dQ
 have HI0 := eH
 have HK := iw
 have HB := iQ
 clear bT dD dQ eH iw iQ
 refine oV (n := 17) (S := fun w' => w'.cell? ⟨pq, 0, none⟩ = some (.int .i64 dS) ∧ w'.cell? ⟨pq, 1, none⟩ = some (.int .i64 dZ) ∧ w'.cell? ⟨pq, 2, none⟩ = some (.slice gY dI.length g_) ∧ w'.cell? ⟨qU, 0, none⟩ = some (.int .i64 qp) ∧ w'.cell? ⟨qU, 1, none⟩ = some (.int .i64 qo) ∧ w'.cell? ⟨qU, 2, none⟩ = some (.slice wG oK.length xE)) (ds := []) #[false, false, false, false, false, false, false, false, false, false, false, false, false, false, false, false, false] (by kernel_rfl) rfl rfl ⟨(aj iT.out 0).trans rfl, (aj iT.out 1).trans rfl, (aj iT.out 2).trans rfl, (aj jg.out 0).trans rfl, (aj jg.out 1).trans rfl, (aj jg.out 2).trans rfl⟩ (fun hHeld => ?_); refine jJ fA.Va fA.Qq (fun dF pI => ?_)
 generalize wY.drew = w12 at iT jg lN HI0 HK HB hHeld ⊢
 refine bf (i := 0) (N := some 7) (v := ?_) (a' := ?_) #[true, false, false, false, false, false, false, false, false, false, false, false, false, false, false, false, false] rfl rfl (aN dF.out (by kernel_rfl)) (fun _ _ _ h => h) (Or.inl ⟨by rfl, ?_⟩) ?_ ?_
 rotate_left
 · intro w'
   go_simp
   with_reducible rfl
 rotate_left
 · simp only [Act.put, List.setIfInBounds_toArray, List.set_cons_zero, List.set_cons_succ, aJ, aK]
   rfl
 refine bf (i := 1) (N := some 8) (v := ?_) (a' := ?_) #[true, true, false, false, false, false, false, false, false, false, false, false, false, false, false, false, false] rfl rfl (aN dF.out (by kernel_rfl)) (fun _ _ _ h => h) (Or.inl ⟨by rfl, ?_⟩) ?_ ?_
 rotate_left
 · intro w'
   go_simp
   with_reducible rfl
 rotate_left
 · simp only [Act.put, List.setIfInBounds_toArray, List.set_cons_zero, List.set_cons_succ, aJ, aK]
   rfl
 refine iP (i := 2) (N := some 9) (v := ?_) (a' := ?_) #[true, true, true, false, false, false, false, false, false, false, false, false, false, false, false, false, false] rfl rfl (eF dF.out pI.out (by kernel_rfl)) (fun _ _ _ h => h) (Or.inl ⟨by rfl, ?_⟩) hHeld ?_ ?_
 rotate_left
 · rintro w' ⟨s0, s1, s2, s3, s4, s5⟩
   go_simp
   with_reducible rfl
 rotate_left
 · simp only [Act.put, List.setIfInBounds_toArray, List.set_cons_zero, List.set_cons_succ, aJ, aK]
   rfl
 refine iP (i := 3) (N := some 10) (v := ?_) (a' := ?_) #[true, true, true, true, false, false, false, false, false, false, false, false, false, false, false, false, false] rfl rfl (eF dF.out pI.out (by kernel_rfl)) (fun _ _ _ h => h) (Or.inl ⟨by rfl, ?_⟩) hHeld ?_ ?_
 rotate_left
 · rintro w' ⟨s0, s1, s2, s3, s4, s5⟩
   go_simp
   with_reducible rfl
 rotate_left
 · simp only [Act.put, List.setIfInBounds_toArray, List.set_cons_zero, List.set_cons_succ, aJ, aK]
   rfl
 refine iP (i := 9) (N := some 16) (v := ?_) (a' := ?_) #[true, true, true, true, false, false, false, false, false, true, false, false, false, false, false, false, false] rfl rfl (eF dF.out pI.out (by kernel_rfl)) (fun _ _ _ h => h) (Or.inl ⟨by rfl, ?_⟩) hHeld ?_ ?_
 rotate_left
 · rintro w' ⟨s0, s1, s2, s3, s4, s5⟩
   go_simp
   with_reducible rfl
 rotate_left
 · simp only [Act.put, List.setIfInBounds_toArray, List.set_cons_zero, List.set_cons_succ, aJ, aK]
   rfl
 refine nC (i := 4) (N := some 11) #[true, true, true, true, true, false, false, false, false, true, false, false, false, false, false, false, false] rfl rfl (iF dF.out (by kernel_rfl)) (by decide) (fun K hK => ?_)
 refine kU Try.func46 (by kernel_rfl) rfl #[.agg #[.int .i64 dS, .int .i64 dZ, .slice gY dI.length g_], .agg #[.int .i64 qp, .int .i64 qo, .slice wG oK.length xE]] (by rfl) rfl rfl (by (try simp only [List.map_toArray, List.map_cons, List.map_nil]); first | done | rfl | (simp only [List.length_drop, List.length_take]; rfl)) ?_
 with_reducible refine (lU.calls dS dZ _ _ dI qp qo _ _ oK t129 t130 t131 t134 t135 _ ?eY ?eX ?lZ ?nU A4.out).mono ?_
 (case eY => exact Kd.OA 0 tV.out (by repeat (first | (with_reducible first | exact HK.out | apply dW.uA | apply gI | apply ig | apply gJ | refine eu ?_ ql.out _ | refine eu ?_ r_.out _ | refine eu ?_ vX.out _) | exact HK.out)) Lp)
 (case eX => exact vW.out)
 (case lZ => exact Kd.OA 0 acW.out (by repeat (first | (with_reducible first | exact HK.out | apply dW.uA | apply gI | apply ig | apply gJ | refine eu ?_ ql.out _ | refine eu ?_ r_.out _ | refine eu ?_ vX.out _) | exact HK.out)) Lm)
 (case nU => exact ac3.out)
 rintro e SC ⟨ana, rfl, ho0, hb⟩
 refine ⟨_, rfl, ?_⟩
 have bT := ah.mk (Kd.jG ho0 (l9 (w := w) (g := g) (row := none) (by repeat (first | (with_reducible first | exact HK.out | apply dW.uA | apply gI | apply ig | apply gJ | refine eu ?_ ql.out _ | refine eu ?_ r_.out _ | refine eu ?_ vX.out _) | exact HK.out))))
 have dD := ah.mk (bn.below (by repeat (first | (with_reducible first | exact HI0.out | apply bn.alloc | apply bn.drewN | apply bn.drew | apply bn.lD | refine bn.far ?_ p_.out _ | refine bn.far ?_ uu.out _ | refine bn.far ?_ zJ.out _) | exact HI0.out)) hb)
 have dQ := ah.mk (bg (g := pq) (o := .cells #[.int .i64 dS, .int .i64 dZ, .slice gY dI.length g_] 26 (0, 0)) (by (with_reducible repeat (first | refine ay ?_ _ | refine aC ?_ | refine az ?_ _)); exact iT.out) hb)
 have eH := ah.mk (bg (g := qU) (o := .cells #[.int .i64 qp, .int .i64 qo, .slice wG oK.length xE] 26 (0, 0)) (by (with_reducible repeat (first | refine ay ?_ _ | refine aC ?_ | refine az ?_ _)); exact jg.out) hb)
 have iw := ah.mk (bg (g := jT) (o := .cells #[.int .i64 0, .int .i64 0, .slice none 0 0] 26 (0, 0)) (by (with_reducible repeat (first | refine ay ?_ _ | refine aC ?_ | refine az ?_ _)); exact lN.out) hb)
 have iQ := ah.mk (dW.trans (by repeat (first | (with_reducible first | exact HK.out | apply dW.uA | apply gI | apply ig | apply gJ | refine eu ?_ ql.out _ | refine eu ?_ r_.out _ | refine eu ?_ vX.out _) | exact HK.out)) (dW.of_below hb g none) (.inl rfl))
 have jk := ah.mk (aI (by repeat (first | (with_reducible first | exact HB.out | apply au | apply af | apply ak | refine aG ?_ (bn.ge HI0.out) | refine aG ?_ D9.out | refine aG ?_ GG.out | refine aG ?_ IC.out) | exact HB.out)) hb)
 clear HI0
 clear iT
 clear jg
 clear lN
 clear HK
 clear HB
 have D7 := bT
 have HI0 := dD
 have iT := dQ
 have jg := eH
 have lN := iw
 have HK := iQ
 have HB := jk
 clear bT dD dQ eH iw iQ jk
 (try clear hb)
 (try clear hb2)
 (try clear hk)
 (try clear hi)
 (try clear ho0)
 obtain ⟨aag, Zz, abv⟩ := Kd.iq D7.out
 (first | subst abv | (injection abv with tH zN tC; have zM := tH.symm; have zL := tC.symm; clear tH zN tC; subst zM; subst zL))
 refine hK.out _ _ ⟨(aj iT.out 0).trans rfl, (aj iT.out 1).trans rfl, (aj iT.out 2).trans rfl, (aj jg.out 0).trans rfl, (aj jg.out 1).trans rfl, (aj jg.out 2).trans rfl⟩ (fun hHeld => ?_)
 clear hK K
 refine iV (a' := ?_) ?_ ?_
 rotate_left
 · show Act.put _ (some 11) _ = _
   simp only [Act.put, List.setIfInBounds_toArray, List.set_cons_zero, List.set_cons_succ, aJ, aK]
   rfl
 refine bf (i := 5) (N := some 12) (v := ?_) (a' := ?_) #[true, true, true, true, true, true, false, false, false, true, false, false, false, false, false, false, false] rfl rfl (aN dF.out (by kernel_rfl)) (fun _ _ _ h => h) (Or.inl ⟨by rfl, ?_⟩) ?_ ?_
 rotate_left
 · intro w'
   go_simp
   with_reducible rfl
 rotate_left
 · simp only [Act.put, List.setIfInBounds_toArray, List.set_cons_zero, List.set_cons_succ, aJ, aK]
   rfl
 refine bf (i := 6) (N := some 13) (v := ?_) (a' := ?_) #[true, true, true, true, true, true, true, false, false, true, false, false, false, false, false, false, false] rfl rfl (aN dF.out (by kernel_rfl)) (fun _ _ _ h => h) (Or.inl ⟨by rfl, ?_⟩) ?_ ?_
 rotate_left
 · intro w'
   go_simp
   with_reducible rfl
 rotate_left
 · simp only [Act.put, List.setIfInBounds_toArray, List.set_cons_zero, List.set_cons_succ, aJ, aK]
   rfl
 refine bf (i := 7) (N := some 14) (v := ?_) (a' := ?_) #[true, true, true, true, true, true, true, true, false, true, false, false, false, false, false, false, false] rfl rfl (aN dF.out (by kernel_rfl)) (fun _ _ _ h => h) (Or.inl ⟨by rfl, ?_⟩) ?_ ?_
 rotate_left
 · intro w'
   go_simp
   with_reducible rfl
 rotate_left
 · simp only [Act.put, List.setIfInBounds_toArray, List.set_cons_zero, List.set_cons_succ, aJ, aK]
   rfl
 refine nC (i := 8) (N := some 15) #[true, true, true, true, true, true, true, true, true, true, false, false, false, false, false, false, false] rfl rfl (iF dF.out (by kernel_rfl)) (by decide) (fun K hK => ?_)
 refine kU Try.func45 (by kernel_rfl) rfl #[.pointer (some ⟨g, 0, none⟩), .agg #[.int .i64 t129, .int .i64 t130, .slice aag t131.length Zz], .bool t134, .int .i64 t135] (by rfl) rfl rfl (by (try simp only [List.map_toArray, List.map_cons, List.map_nil]); first | done | rfl | (simp only [List.length_drop, List.length_take]; rfl)) ?_
 with_reducible refine (gq.calls g qX t129 t130 (fun k_ => some k_ = (.slice aag t131.length Zz : Value).ownBlock) (.slice aag t131.length Zz) t131 t134 t135 t136 t137 t138 t141 w0 _ ?eY ?eX ?lZ A5.out).mono ?_
 (case eY => repeat (first | (with_reducible first | exact HI0.out | apply bn.alloc | apply bn.drewN | apply bn.drew | apply bn.lD | refine bn.far ?_ p_.out _ | refine bn.far ?_ uu.out _ | refine bn.far ?_ zJ.out _) | exact HI0.out))
 (case eX => repeat (first | (with_reducible first | exact HB.out | apply au | apply af | apply ak | refine aG ?_ (bn.ge HI0.out) | refine aG ?_ D9.out | refine aG ?_ GG.out | refine aG ?_ IC.out) | exact HB.out))
 (case lZ => exact Kd.jG (Kd.Qu rfl D7.out) HL.out)
 rintro e w15 ⟨v139, rfl, ho0, hi, hb, hkp⟩
 refine ⟨_, rfl, ?_⟩
 have bT := ah.mk (hi)
 have dD := ah.mk (wM (by (with_reducible repeat (first | refine ay ?_ _ | refine aC ?_ | refine az ?_ _)); exact iT.out) hkp (fun hs_ => Or.elim hs_ (fun hs_ => (fun e_ => (Kd.wO D7.out iT.out (by decide)) e_) hs_) (fun e_ => Qz.out e_)))
 have dQ := ah.mk (wM (by (with_reducible repeat (first | refine ay ?_ _ | refine aC ?_ | refine az ?_ _)); exact jg.out) hkp (fun hs_ => Or.elim hs_ (fun hs_ => (fun e_ => (Kd.wO D7.out jg.out (by decide)) e_) hs_) (fun e_ => Qy.out e_)))
 have eH := ah.mk (wM (by (with_reducible repeat (first | refine ay ?_ _ | refine aC ?_ | refine az ?_ _)); exact lN.out) hkp (fun hs_ => Or.elim hs_ (fun hs_ => (fun e_ => (Kd.wO D7.out lN.out (by decide)) e_) hs_) (fun e_ => Qx.out e_)))
 have iw := ah.mk (Kd.fQ (ok' := fun k_ => True) (Kd.Qv (d := (Kd.int .i64)) (b := w0.heap.size) (b' := w.heap.size) (fun _ _ _ _ h_ => h_) ho0 (fun k_ e_ => Or.elim (ho0.1 k_ e_) (fun hs_ => (fun e_ => Kd.qK D7.out k_ e_.symm) hs_) (fun TI => Nat.le_trans (l9 (w := w) (g := g) (row := none) (by repeat (first | (with_reducible first | exact HK.out | apply dW.uA | apply gI | apply ig | apply gJ | refine eu ?_ ql.out _ | refine eu ?_ r_.out _ | refine eu ?_ vX.out _) | exact HK.out))) TI))) (fun k_ Ld => trivial))
 have iQ := ah.mk (Kept.Yc (by repeat (first | (with_reducible first | exact HK.out | apply dW.uA | apply gI | apply ig | apply gJ | refine eu ?_ ql.out _ | refine eu ?_ r_.out _ | refine eu ?_ vX.out _) | exact HK.out)) hkp (fun k_ hs_ => Or.elim hs_ (fun hs_ => (fun e_ => .inr (Kd.qK D7.out k_ e_.symm)) hs_) (fun e_ => .inl e_)))
 have jk := ah.mk (hb)
 clear HI0
 clear iT
 clear jg
 clear lN
 clear HK
 clear HB
 clear D7
 have HI0 := bT
 have iT := dD
 have jg := dQ
 have lN := eH
 have tZ := iw
 have HK := iQ
 have HB := jk
 clear bT dD dQ eH iw iQ jk
 (try clear hb)
 (try clear hkp)
 (try clear ho0)
 refine hK.out _ _ ⟨(aj iT.out 0).trans rfl, (aj iT.out 1).trans rfl, (aj iT.out 2).trans rfl, (aj jg.out 0).trans rfl, (aj jg.out 1).trans rfl, (aj jg.out 2).trans rfl⟩ (fun hHeld => ?_)
 clear hK K
 refine iV (a' := ?_) ?_ ?_
 rotate_left
 · show Act.put _ (some 15) _ = _
   simp only [Act.put, List.setIfInBounds_toArray, List.set_cons_zero, List.set_cons_succ, aJ, aK]
   rfl
 refine nC (i := 10) (N := some 17) #[true, true, true, true, true, true, true, true, true, true, true, false, false, false, false, false, false] rfl rfl (iF dF.out (by kernel_rfl)) (by decide) (fun K hK => ?_)
 refine kU Try.func41 (by kernel_rfl) rfl #[.agg #[.int .i64 dS, .int .i64 dZ, .slice gY dI.length g_]] (by rfl) rfl rfl (by (try simp only [List.map_toArray, List.map_cons, List.map_nil]); first | done | rfl | (simp only [List.length_drop, List.length_take]; rfl)) ?_
 with_reducible refine (jy.calls dS dZ _ _ dI t142 t143 t144 _ ?eY ?eX A6.out).mono ?_
 (case eY => exact Kd.OA 0 tV.out (by repeat (first | (with_reducible first | exact HK.out | apply dW.uA | apply gI | apply ig | apply gJ | refine eu ?_ ql.out _ | refine eu ?_ r_.out _ | refine eu ?_ vX.out _) | exact HK.out)) Lp)
 (case eX => exact vW.out)
 rintro e w16 ⟨v145, rfl, ho0, hb⟩
 refine ⟨_, rfl, ?_⟩
 have bT := ah.mk (Kd.pG (by (with_reducible repeat (first | apply Kd.bZ | apply Kd.bY | apply Kd.dA)); exact tZ.out) (Kd.qK ho0) hb)
 have dD := ah.mk (Kd.jG (Kd.wE ho0 (Kd.Dc (by (with_reducible repeat (first | apply Kd.bZ | apply Kd.bY | apply Kd.dA)); exact tZ.out))) (l9 (w := w) (g := g) (row := none) (by repeat (first | (with_reducible first | exact HK.out | apply dW.uA | apply gI | apply ig | apply gJ | refine eu ?_ ql.out _ | refine eu ?_ r_.out _ | refine eu ?_ vX.out _) | exact HK.out))))
 have dQ := ah.mk (bn.below (by repeat (first | (with_reducible first | exact HI0.out | apply bn.alloc | apply bn.drewN | apply bn.drew | apply bn.lD | refine bn.far ?_ p_.out _ | refine bn.far ?_ uu.out _ | refine bn.far ?_ zJ.out _) | exact HI0.out)) hb)
 have eH := ah.mk (bg (g := pq) (o := .cells #[.int .i64 dS, .int .i64 dZ, .slice gY dI.length g_] 26 (0, 0)) (by (with_reducible repeat (first | refine ay ?_ _ | refine aC ?_ | refine az ?_ _)); exact iT.out) hb)
 have iw := ah.mk (bg (g := qU) (o := .cells #[.int .i64 qp, .int .i64 qo, .slice wG oK.length xE] 26 (0, 0)) (by (with_reducible repeat (first | refine ay ?_ _ | refine aC ?_ | refine az ?_ _)); exact jg.out) hb)
 have iQ := ah.mk (bg (g := jT) (o := .cells #[.int .i64 0, .int .i64 0, .slice none 0 0] 26 (0, 0)) (by (with_reducible repeat (first | refine ay ?_ _ | refine aC ?_ | refine az ?_ _)); exact lN.out) hb)
 have jk := ah.mk (dW.trans (by repeat (first | (with_reducible first | exact HK.out | apply dW.uA | apply gI | apply ig | apply gJ | refine eu ?_ ql.out _ | refine eu ?_ r_.out _ | refine eu ?_ vX.out _) | exact HK.out)) (dW.of_below hb g none) (.inl rfl))
 have mQ := ah.mk (aI (by repeat (first | (with_reducible first | exact HB.out | apply au | apply af | apply ak | refine aG ?_ (bn.ge HI0.out) | refine aG ?_ D9.out | refine aG ?_ GG.out | refine aG ?_ IC.out) | exact HB.out)) hb)
 clear tZ
 clear HI0
 clear iT
 clear jg
 clear lN
 clear HK
 clear HB
 have tZ := bT
 have xN := dD
 have HI0 := dQ
 have iT := eH
 have jg := iw
 have lN := iQ
 have HK := jk
 have HB := mQ
 clear bT dD dQ eH iw iQ jk mQ
 (try clear hb)
 (try clear hb2)
 (try clear hk)
 (try clear hi)
 (try clear ho0)
 obtain ⟨UY, Uo, T_⟩ := Kd.iq tZ.out
 (first | subst T_ | (injection T_ with tH zN tC; have zM := tH.symm; have zL := tC.symm; clear tH zN tC; subst zM; subst zL))
 obtain ⟨OB, JL, Bv⟩ := Kd.iq xN.out
 (first | subst Bv | (injection Bv with tH zN tC; have zM := tH.symm; have zL := tC.symm; clear tH zN tC; subst zM; subst zL))
 refine hK.out _ _ ⟨(aj iT.out 0).trans rfl, (aj iT.out 1).trans rfl, (aj iT.out 2).trans rfl, (aj jg.out 0).trans rfl, (aj jg.out 1).trans rfl, (aj jg.out 2).trans rfl⟩ (fun hHeld => ?_)
 clear hK K
 refine iV (a' := ?_) ?_ ?_
 rotate_left
 · show Act.put _ (some 17) _ = _
   simp only [Act.put, List.setIfInBounds_toArray, List.set_cons_zero, List.set_cons_succ, aJ, aK]
   rfl
 refine nC (i := 11) (N := some 18) #[true, true, true, true, true, true, true, true, true, true, true, true, false, false, false, false, false] rfl rfl (iF dF.out (by kernel_rfl)) (by decide) (fun K hK => ?_)
 refine kU Try.func46 (by kernel_rfl) rfl #[.agg #[.int .i64 t136, .int .i64 t137, .slice UY t138.length Uo], .agg #[.int .i64 t142, .int .i64 t143, .slice OB t144.length JL]] (by rfl) rfl rfl (by (try simp only [List.map_toArray, List.map_cons, List.map_nil]); first | done | rfl | (simp only [List.length_drop, List.length_take]; rfl)) ?_
 with_reducible refine (lU.calls t136 t137 _ _ t138 t142 t143 _ _ t144 t147 t148 t149 t152 t153 _ ?eY ?eX ?lZ ?nU A7.out).mono ?_
 (case eY => repeat (first | exact (Kd.jB tZ.out).2.2 | (with_reducible refine Kd.fE ?_ _) | (with_reducible refine Kd.fD ?_ _) | (with_reducible refine Kd.gm ?_)))
 (case eX => exact (Kd.jB tZ.out).2.1)
 (case lZ => repeat (first | exact (Kd.jB xN.out).2.2 | (with_reducible refine Kd.fE ?_ _) | (with_reducible refine Kd.fD ?_ _) | (with_reducible refine Kd.gm ?_)))
 (case nU => exact (Kd.jB xN.out).2.1)
 rintro e Eb ⟨am_, rfl, ho0, hb⟩
 refine ⟨_, rfl, ?_⟩
 have bT := ah.mk (Kd.pG (by (with_reducible repeat (first | apply Kd.bZ | apply Kd.bY | apply Kd.dA)); exact tZ.out) (Kd.qK ho0) hb)
 have dD := ah.mk (Kd.pG (by (with_reducible repeat (first | apply Kd.bZ | apply Kd.bY | apply Kd.dA)); exact xN.out) (Kd.qK ho0) hb)
 have dQ := ah.mk (Kd.jG (Kd.wE (Kd.wE ho0 (Kd.Dc (by (with_reducible repeat (first | apply Kd.bZ | apply Kd.bY | apply Kd.dA)); exact tZ.out))) (Kd.Dc (by (with_reducible repeat (first | apply Kd.bZ | apply Kd.bY | apply Kd.dA)); exact xN.out))) (l9 (w := w) (g := g) (row := none) (by repeat (first | (with_reducible first | exact HK.out | apply dW.uA | apply gI | apply ig | apply gJ | refine eu ?_ ql.out _ | refine eu ?_ r_.out _ | refine eu ?_ vX.out _) | exact HK.out))))
 have eH := ah.mk (bn.below (by repeat (first | (with_reducible first | exact HI0.out | apply bn.alloc | apply bn.drewN | apply bn.drew | apply bn.lD | refine bn.far ?_ p_.out _ | refine bn.far ?_ uu.out _ | refine bn.far ?_ zJ.out _) | exact HI0.out)) hb)
 have iw := ah.mk (bg (g := pq) (o := .cells #[.int .i64 dS, .int .i64 dZ, .slice gY dI.length g_] 26 (0, 0)) (by (with_reducible repeat (first | refine ay ?_ _ | refine aC ?_ | refine az ?_ _)); exact iT.out) hb)
 have iQ := ah.mk (bg (g := qU) (o := .cells #[.int .i64 qp, .int .i64 qo, .slice wG oK.length xE] 26 (0, 0)) (by (with_reducible repeat (first | refine ay ?_ _ | refine aC ?_ | refine az ?_ _)); exact jg.out) hb)
 have jk := ah.mk (bg (g := jT) (o := .cells #[.int .i64 0, .int .i64 0, .slice none 0 0] 26 (0, 0)) (by (with_reducible repeat (first | refine ay ?_ _ | refine aC ?_ | refine az ?_ _)); exact lN.out) hb)
 have mQ := ah.mk (dW.trans (by repeat (first | (with_reducible first | exact HK.out | apply dW.uA | apply gI | apply ig | apply gJ | refine eu ?_ ql.out _ | refine eu ?_ r_.out _ | refine eu ?_ vX.out _) | exact HK.out)) (dW.of_below hb g none) (.inl rfl))
 have qA := ah.mk (aI (by repeat (first | (with_reducible first | exact HB.out | apply au | apply af | apply ak | refine aG ?_ (bn.ge HI0.out) | refine aG ?_ D9.out | refine aG ?_ GG.out | refine aG ?_ IC.out) | exact HB.out)) hb)
 clear tZ
 clear xN
 clear HI0
 clear iT
 clear jg
 clear lN
 clear HK
 clear HB
 have tZ := bT
 have xN := dD
 have D6 := dQ
 have HI0 := eH
 have iT := iw
 have jg := iQ
 have lN := jk
 have HK := mQ
 have HB := qA
 clear bT dD dQ eH iw iQ jk mQ qA
 (try clear hb)
 (try clear hb2)
 (try clear hk)
 (try clear hi)
 (try clear ho0)
 obtain ⟨wF, uo, LG⟩ := Kd.iq D6.out
 (first | subst LG | (injection LG with tH zN tC; have zM := tH.symm; have zL := tC.symm; clear tH zN tC; subst zM; subst zL))
 refine hK.out _ _ ⟨(aj iT.out 0).trans rfl, (aj iT.out 1).trans rfl, (aj iT.out 2).trans rfl, (aj jg.out 0).trans rfl, (aj jg.out 1).trans rfl, (aj jg.out 2).trans rfl⟩ (fun hHeld => ?_)
 clear hK K
 refine iV (a' := ?_) ?_ ?_
 rotate_left
 · show Act.put _ (some 18) _ = _
   simp only [Act.put, List.setIfInBounds_toArray, List.set_cons_zero, List.set_cons_succ, aJ, aK]
   rfl
 refine bf (i := 12) (N := some 19) (v := ?_) (a' := ?_) #[true, true, true, true, true, true, true, true, true, true, true, true, true, false, false, false, false] rfl rfl (aN dF.out (by kernel_rfl)) (fun _ _ _ h => h) (Or.inl ⟨by rfl, ?_⟩) ?_ ?_
 rotate_left
 · intro w'
   go_simp
   with_reducible rfl
 rotate_left
 · simp only [Act.put, List.setIfInBounds_toArray, List.set_cons_zero, List.set_cons_succ, aJ, aK]
   rfl
 refine bf (i := 13) (N := some 20) (v := ?_) (a' := ?_) #[true, true, true, true, true, true, true, true, true, true, true, true, true, true, false, false, false] rfl rfl (aN dF.out (by kernel_rfl)) (fun _ _ _ h => h) (Or.inl ⟨by rfl, ?_⟩) ?_ ?_
 rotate_left
 · intro w'
   go_simp
   with_reducible rfl
 rotate_left
 · simp only [Act.put, List.setIfInBounds_toArray, List.set_cons_zero, List.set_cons_succ, aJ, aK]
   rfl
 refine bf (i := 14) (N := some 21) (v := ?_) (a' := ?_) #[true, true, true, true, true, true, true, true, true, true, true, true, true, true, true, false, false] rfl rfl (aN dF.out (by kernel_rfl)) (fun _ _ _ h => h) (Or.inl ⟨by rfl, ?_⟩) ?_ ?_
 rotate_left
 · intro w'
   go_simp
   with_reducible rfl
 rotate_left
 · simp only [Act.put, List.setIfInBounds_toArray, List.set_cons_zero, List.set_cons_succ, aJ, aK]
   rfl
 refine nC (i := 15) (N := some 22) #[true, true, true, true, true, true, true, true, true, true, true, true, true, true, true, true, false] rfl rfl (iF dF.out (by kernel_rfl)) (by decide) (fun K hK => ?_)
 refine kU Try.func45 (by kernel_rfl) rfl #[.pointer (some ⟨g, 0, none⟩), .agg #[.int .i64 t147, .int .i64 t148, .slice wF t149.length uo], .bool t152, .int .i64 t153] (by rfl) rfl rfl (by (try simp only [List.map_toArray, List.map_cons, List.map_nil]); first | done | rfl | (simp only [List.length_drop, List.length_take]; rfl)) ?_
 with_reducible refine (gq.calls g t141 t147 t148 (fun k_ => some k_ = (.slice wF t149.length uo : Value).ownBlock) (.slice wF t149.length uo) t149 t152 t153 t154 t155 t156 t159 w0 _ ?eY ?eX ?lZ A8.out).mono ?_
 (case eY => repeat (first | (with_reducible first | exact HI0.out | apply bn.alloc | apply bn.drewN | apply bn.drew | apply bn.lD | refine bn.far ?_ p_.out _ | refine bn.far ?_ uu.out _ | refine bn.far ?_ zJ.out _) | exact HI0.out))
 (case eX => repeat (first | (with_reducible first | exact HB.out | apply au | apply af | apply ak | refine aG ?_ (bn.ge HI0.out) | refine aG ?_ D9.out | refine aG ?_ GG.out | refine aG ?_ IC.out) | exact HB.out))
 (case lZ => exact Kd.jG (Kd.Qu rfl D6.out) HL.out)
 rintro e U9 ⟨v157, rfl, ho0, hi, hb, hkp⟩
 refine ⟨_, rfl, ?_⟩
 have bT := ah.mk (hi)
 have dD := ah.mk (wM (by (with_reducible repeat (first | refine ay ?_ _ | refine aC ?_ | refine az ?_ _)); exact iT.out) hkp (fun hs_ => Or.elim hs_ (fun hs_ => (fun e_ => (Kd.wO D6.out iT.out (by decide)) e_) hs_) (fun e_ => Qz.out e_)))
 have dQ := ah.mk (wM (by (with_reducible repeat (first | refine ay ?_ _ | refine aC ?_ | refine az ?_ _)); exact jg.out) hkp (fun hs_ => Or.elim hs_ (fun hs_ => (fun e_ => (Kd.wO D6.out jg.out (by decide)) e_) hs_) (fun e_ => Qy.out e_)))
 have eH := ah.mk (wM (by (with_reducible repeat (first | refine ay ?_ _ | refine aC ?_ | refine az ?_ _)); exact lN.out) hkp (fun hs_ => Or.elim hs_ (fun hs_ => (fun e_ => (Kd.wO D6.out lN.out (by decide)) e_) hs_) (fun e_ => Qx.out e_)))
 have iw := ah.mk (Kd.fQ (ok' := fun k_ => some k_ ≠ (.slice OB t144.length JL : Value).ownBlock ∧ some k_ ≠ (v157 : Value).ownBlock) (Kd.Qw ((bn.apart HI0.out tZ.out (by decide))) hkp (fun k_ Ld hs_ => Or.elim hs_ (fun hs_ => (Ld.1.2) hs_) (fun e_ => (Ld.2) e_))) (fun k_ Ld => ⟨Ld.1.1.1.2, fun e_ => Or.elim (ho0.1 k_ e_.symm) (fun hs_ => Ld.2.1 (.inl hs_)) (fun TI => Nat.not_le.2 Ld.2.2 TI)⟩))
 have iQ := ah.mk (Kd.fQ (ok' := fun k_ => some k_ ≠ (.slice UY t138.length Uo : Value).ownBlock ∧ some k_ ≠ (v157 : Value).ownBlock) (Kd.Qw ((bn.apart HI0.out xN.out (by decide))) hkp (fun k_ Ld hs_ => Or.elim hs_ (fun hs_ => (Ld.1.2) hs_) (fun e_ => (Ld.2) e_))) (fun k_ Ld => ⟨Ld.1.1.1.2, fun e_ => Or.elim (ho0.1 k_ e_.symm) (fun hs_ => Ld.2.1 (.inl hs_)) (fun TI => Nat.not_le.2 Ld.2.2 TI)⟩))
 have jk := ah.mk (Kd.fQ (ok' := fun k_ => some k_ ≠ (.slice UY t138.length Uo : Value).ownBlock ∧ some k_ ≠ (.slice OB t144.length JL : Value).ownBlock) (Kd.Qv (d := (Kd.int .i64)) (b := w0.heap.size) (b' := w.heap.size) (fun _ _ _ _ h_ => h_) ho0 (fun k_ e_ => Or.elim (ho0.1 k_ e_) (fun hs_ => (fun e_ => Kd.qK D6.out k_ e_.symm) hs_) (fun TI => Nat.le_trans (l9 (w := w) (g := g) (row := none) (by repeat (first | (with_reducible first | exact HK.out | apply dW.uA | apply gI | apply ig | apply gJ | refine eu ?_ ql.out _ | refine eu ?_ r_.out _ | refine eu ?_ vX.out _) | exact HK.out))) TI))) (fun k_ Ld => ⟨Or.elim Ld (fun hs_ => fun e_ => ((((bn.apart HI0.out tZ.out (by decide))).1 k_ e_.symm).1.2) hs_) (fun TI => (Kd.fresh' (Kd.Dc (by (with_reducible repeat (first | apply Kd.bZ | apply Kd.bY | apply Kd.dA)); exact tZ.out)) k_ TI)), Or.elim Ld (fun hs_ => fun e_ => ((((bn.apart HI0.out xN.out (by decide))).1 k_ e_.symm).1.2) hs_) (fun TI => (Kd.fresh' (Kd.Dc (by (with_reducible repeat (first | apply Kd.bZ | apply Kd.bY | apply Kd.dA)); exact xN.out)) k_ TI))⟩))
 have mQ := ah.mk (Kept.Yc (by repeat (first | (with_reducible first | exact HK.out | apply dW.uA | apply gI | apply ig | apply gJ | refine eu ?_ ql.out _ | refine eu ?_ r_.out _ | refine eu ?_ vX.out _) | exact HK.out)) hkp (fun k_ hs_ => Or.elim hs_ (fun hs_ => (fun e_ => .inr (Kd.qK D6.out k_ e_.symm)) hs_) (fun e_ => .inl e_)))
 have qA := ah.mk (hb)
 clear HI0
 clear iT
 clear jg
 clear lN
 clear tZ
 clear xN
 clear HK
 clear HB
 clear D6
 have HI0 := bT
 have iT := dD
 have jg := dQ
 have lN := eH
 have tZ := iw
 have xN := iQ
 have YG := jk
 have HK := mQ
 have HB := qA
 clear bT dD dQ eH iw iQ jk mQ qA
 (try clear hb)
 (try clear hkp)
 (try clear ho0)
 obtain ⟨adn, abA, abt⟩ := Kd.iq YG.out
 (first | subst abt | (injection abt with tH zN tC; have zM := tH.symm; have zL := tC.symm; clear tH zN tC; subst zM; subst zL))
 refine hK.out _ _ ⟨(aj iT.out 0).trans rfl, (aj iT.out 1).trans rfl, (aj iT.out 2).trans rfl, (aj jg.out 0).trans rfl, (aj jg.out 1).trans rfl, (aj jg.out 2).trans rfl⟩ (fun hHeld => ?_)
 clear hK K
 refine iV (a' := ?_) ?_ ?_
 rotate_left
 · show Act.put _ (some 22) _ = _
   simp only [Act.put, List.setIfInBounds_toArray, List.set_cons_zero, List.set_cons_succ, aJ, aK]
   rfl
 refine nC (i := 16) (N := none) #[true, true, true, true, true, true, true, true, true, true, true, true, true, true, true, true, true] rfl rfl (iF dF.out (by kernel_rfl)) (by decide) (fun K hK => ?_)
 have ah4 : U9.cell? ⟨jT, 0, none⟩ = some (.int .i64 0) := (aj lN.out 0).trans rfl
 have abg := aA lN.out 0
 have Vz := lu.out
 have Vy := lq.out
 have VH := Dn.out
 have VG := Dl.out
 have ah3 : U9.cell? ⟨jT, 1, none⟩ = some (.int .i64 0) := (aj lN.out 1).trans rfl
 have abf := aA lN.out 1
 have Vx := lu.out
 have Vw := lq.out
 have VF := Dn.out
 have VE := Dl.out
 have ah2 : U9.cell? ⟨jT, 2, none⟩ = some (.slice none 0 0) := (aj lN.out 2).trans rfl
 have abe := aA lN.out 2
 have Vu := lu.out
 have Vt := lq.out
 have VD := Dn.out
 have VC := Dl.out
 refine Du (w1 := ?_) (by rfl) rfl ?_ ?_
 rotate_left
 · go_simp
   rfl
 refine hK.out _ _ ⟨((cell_far (p := ⟨jT, _, none⟩) lu.out _).trans (((cell_far (p := ⟨jT, _, none⟩) lu.out _).trans (((cell_far (p := ⟨jT, _, none⟩) lu.out _).trans (hHeld.1)))))), ((cell_far (p := ⟨jT, _, none⟩) lu.out _).trans (((cell_far (p := ⟨jT, _, none⟩) lu.out _).trans (((cell_far (p := ⟨jT, _, none⟩) lu.out _).trans (hHeld.2.1)))))), ((cell_far (p := ⟨jT, _, none⟩) lu.out _).trans (((cell_far (p := ⟨jT, _, none⟩) lu.out _).trans (((cell_far (p := ⟨jT, _, none⟩) lu.out _).trans (hHeld.2.2.1)))))), ((cell_far (p := ⟨jT, _, none⟩) lq.out _).trans (((cell_far (p := ⟨jT, _, none⟩) lq.out _).trans (((cell_far (p := ⟨jT, _, none⟩) lq.out _).trans (hHeld.2.2.2.1)))))), ((cell_far (p := ⟨jT, _, none⟩) lq.out _).trans (((cell_far (p := ⟨jT, _, none⟩) lq.out _).trans (((cell_far (p := ⟨jT, _, none⟩) lq.out _).trans (hHeld.2.2.2.2.1)))))), ((cell_far (p := ⟨jT, _, none⟩) lq.out _).trans (((cell_far (p := ⟨jT, _, none⟩) lq.out _).trans (((cell_far (p := ⟨jT, _, none⟩) lq.out _).trans (hHeld.2.2.2.2.2))))))⟩ (fun hHeld => ?_)
 clear hK K
 refine tJ (lW dF.out (by kernel_rfl)) ?_
 try go_wp2
 refine bodyPost_ret (results_cell_row rfl _ _ jT 26 #[.int .i64 t154, .int .i64 t155, .slice adn t156.length abA] (0, 0) _ rfl (by (with_reducible repeat (first | refine ay ?_ _ | refine aC ?_ | refine az ?_ _)); refine bQ (cs := #[.int .i64 t154, .int .i64 t155, .slice none 0 0]) ?_ 2 _ rfl; (with_reducible repeat (first | refine ay ?_ _ | refine aC ?_ | refine az ?_ _)); refine bQ (cs := #[.int .i64 t154, .int .i64 0, .slice none 0 0]) ?_ 1 _ rfl; (with_reducible repeat (first | refine ay ?_ _ | refine aC ?_ | refine az ?_ _)); refine bQ (cs := #[.int .i64 0, .int .i64 0, .slice none 0 0]) ?_ 0 _ rfl; (with_reducible repeat (first | refine ay ?_ _ | refine aC ?_ | refine az ?_ _)); exact lN.out) Try.underlying26 rfl (by kernel_rfl)) rfl ?_
 exact ⟨_, by first | rfl | (simp [aU, aT] <;> rfl) | (simp [*, aU, aT] <;> rfl), by (with_reducible repeat (first | apply Kd.bZ | apply Kd.bY | apply Kd.dA)); exact Kd.fQ (Kd.dM (p := ⟨jT, 2, none⟩) (Kd.dM (p := ⟨jT, 1, none⟩) (Kd.dM (p := ⟨jT, 0, none⟩) (Kd.iM YG.out lN.out (by decide)) (fun _ hk => hk.2) (.int .i64 t154)) (fun _ hk => hk.2) (.int .i64 t155)) (fun _ hk => hk.2) (.slice adn t156.length abA)) (fun _ hk => trivial), by repeat (first | (with_reducible first | exact HI0.out | apply bn.alloc | apply bn.drewN | apply bn.drew | apply bn.lD | refine bn.far ?_ p_.out _ | refine bn.far ?_ uu.out _ | refine bn.far ?_ zJ.out _) | exact HI0.out), by repeat (first | (with_reducible first | exact HB.out | apply au | apply af | apply ak | refine aG ?_ (bn.ge HI0.out) | refine aG ?_ D9.out | refine aG ?_ GG.out | refine aG ?_ IC.out) | exact HB.out), by repeat (first | (with_reducible first | exact HK.out | apply dW.uA | apply gI | apply ig | apply gJ | refine eu ?_ ql.out _ | refine eu ?_ r_.out _ | refine eu ?_ vX.out _) | exact HK.out)⟩
end Go.Proofs.Ytninmcmajbfccaa.PR

namespace Go.Proofs.Ytninmcmajbfccaa.PR
open Go.RowKit Go.Proofs.Ytninmcmajbfccaa.PQ Go.Proofs.aH.bK Go.Proofs.aH.dG Go.Proofs.aH.dJ
attribute [local go_sem] jS jQ kT kS ji jh jR jP
set_option linter.unusedVariables false
set_option linter.unusedSimpArgs false
def fH.l0 : Nat → Int → Int → Int → Int → List Int → Option (Int × Int × List Int)
 | 0, _, _, _, _, _ => none
 | k + 1, x14, x15, OO, yY, Ei => if x15 < x14 then (if 0 ≤ (wrap64 ((wrap64 (x15 * yY)) + x15)) then (if (wrap64 ((wrap64 (x15 * yY)) + x15)) < (Ei.length : Int) then (fH.l0 k x14 (wrap64 (x15 + 1)) OO yY (Ei.set ((wrap64 ((wrap64 (x15 * yY)) + x15)) : Int).toNat (mx (rd Ei (wrap64 ((wrap64 (x15 * yY)) + x15))) 0))) else (none)) else (none)) else (some (OO, yY, Ei))
def fH.f (k : Nat) (aQ : Int) (a_ : Int) (aY : List Int) : Option (Int × Int × List Int) := (uF.f aQ a_ aY).bind fun BL => (fH.l0 k BL.1 0 BL.1 BL.2.1 BL.2.2.1)
def fH.T5 : Bool × List (List Nat × List Nat) := (true, [([], []), ([0], [0]), ([], []), ([], []), ([3], [3]), ([2, 4], [2, 4]), ([], []), ([5, 6], [5, 6]), ([], []), ([8], [8]), ([], []), ([], []), ([11], [11]), ([10, 12], [10, 12]), ([], []), ([13, 14], [13, 14]), ([9, 15], [9, 15]), ([16], [16]), ([17], [17]), ([1, 7, 0, 1, 2, 3, 4, 5, 6, 7, 8, 9, 10, 11, 12, 13, 14, 15, 16, 17, 18], [1, 7]), ([19, 18, 0, 1, 2, 3, 4, 5, 6, 7, 8, 9, 10, 11, 12, 13, 14, 15, 16, 17, 18], [18, 19])])
def fH.B5 : List Nat := [0, 1, 0, 0, 8, 28, 0, 124, 0, 256, 0, 0, 2048, 7168, 0, 31744, 65280, 130816, 261888, 524287, 1048575]
theorem fH.ahK : qy .any (opsOf Try.f15 5) = fH.T5 := by kernel_rfl
theorem fH.abQ : pM fH.T5.2 fH.B5 = true := by kernel_rfl
theorem fH.calls (k : Nat) (aQ : Int) (a_ : Int) (cO : Option Addr) (cu : Nat) (aY : List Int) (r1 : Int) (r2 : Int) (r3 : List Int) (w : World) (jl : Kd.C (Kd.int .i64) w cO aY.length aY) (jD : aY.length ≤ cu) (h : fH.f k aQ a_ aY = some (r1, r2, r3)) :
 Calls Try.prog 15 #[.agg #[.int .i64 aQ, .int .i64 a_, .slice cO aY.length cu]] w fun e w' => ∃ wX : Value, e = .returned (.agg #[.int .i64 r1, .int .i64 r2, wX]) ∧ Kd.R (Kd.int .i64) 22 w' w.heap.size (fun _ => True) wX r3 ∧ Below w.heap.size w w' := by
 have yz := Try.underlying26
 have kC := ah.mk jl
 have lM := ah.mk jD
 clear jl jD
 have HB := ah.mk (Below.refl w.heap.size w)
 have H : ((uF.f aQ a_ aY).bind fun BL => (fH.l0 k BL.1 0 BL.1 BL.2.1 BL.2.2.1)) = some (r1, r2, r3) := h
 clear h
 replace H := Option.bind_eq_some_iff.mp H
 obtain ⟨⟨t164, t165, t166, t169, t170⟩, YN, H⟩ := H
 replace H : (fH.l0 k t164 0 t164 t165 t166) = some (r1, r2, r3) := H
 have A2 := ah.mk YN
 clear YN
 have H' := ah.mk H
 clear H
 go_enter Try.func15, Try.ntmps15
 go_wp2_with (first | ((with_reducible refine dY (N := 1) rfl ?_); refine dH ?hg (N := 1) ?hd (cs := #[.int .i64 aQ, .int .i64 a_, .slice cO aY.length cu]) (t := 26) ?hr ?_; (case hd => rfl); (case hg => rfl); (case hr => first | (go_simp; done) | (go_simp; rfl)); intro rX hg w3 hbox hb; have bT := ah.mk (aI (by repeat (first | (with_reducible first | exact HB.out | apply au | apply af | apply ak) | exact HB.out)) hb); have dD := ah.mk (hbox); have dQ := ah.mk ((by rw [hg]; exact (aW (by repeat (first | (with_reducible first | exact HB.out | apply au | apply af | apply ak) | exact HB.out))) : w.heap.size ≤ rX)); have eH := ah.mk ((by rw [hg]; exact (aW (by repeat (first | (with_reducible first | exact HB.out | apply au | apply af | apply ak) | exact HB.out))) : w.heap.size ≤ rX)); clear HB; have HB := bT; have mG := dD; have amw := dQ; have yO := eH; clear bT dD dQ eH; clear hb hbox hg) | ((with_reducible refine dY (N := 2) rfl ?_); refine dH ?hg (N := 2) ?hd (cs := #[.int .i64 0, .int .i64 0, .slice none 0 0]) (t := 26) ?hr ?_; (case hd => rfl); (case hg => rfl); (case hr => first | (go_simp; done) | (go_simp; rfl)); intro qR hg w4 hbox hb; have bT := ah.mk (bg (g := rX) (o := .cells #[.int .i64 aQ, .int .i64 a_, .slice cO aY.length cu] 26 (0, 0)) (by (with_reducible repeat (first | refine ay ?_ _ | refine aC ?_ | refine az ?_ _)); exact mG.out) hb); have dD := ah.mk (aI (by repeat (first | (with_reducible first | exact HB.out | apply au | apply af | apply ak | refine aG ?_ yO.out) | exact HB.out)) hb); have dQ := ah.mk (hbox); have eH := ah.mk ((by rw [hg]; exact (aW (by repeat (first | (with_reducible first | exact HB.out | apply au | apply af | apply ak | refine aG ?_ yO.out) | exact HB.out))) : w.heap.size ≤ qR)); have iw := ah.mk ((by rw [hg]; exact (aW (by repeat (first | (with_reducible first | exact HB.out | apply au | apply af | apply ak | refine aG ?_ yO.out) | exact HB.out))) : w.heap.size ≤ qR)); have iQ := ah.mk ((by rw [hg]; exact Nat.ne_of_lt (dP (g := rX) (o := .cells #[.int .i64 aQ, .int .i64 a_, .slice cO aY.length cu] 26 (0, 0)) (by (with_reducible repeat (first | refine ay ?_ _ | refine aC ?_ | refine az ?_ _)); exact mG.out)) : rX ≠ qR)); have jk := ah.mk ((by rw [hg]; exact Nat.ne_of_gt (dP (g := rX) (o := .cells #[.int .i64 aQ, .int .i64 a_, .slice cO aY.length cu] 26 (0, 0)) (by (with_reducible repeat (first | refine ay ?_ _ | refine aC ?_ | refine az ?_ _)); exact mG.out)) : qR ≠ rX)); clear mG; clear HB; have mG := bT; have HB := dD; have nS := dQ; have amv := eH; have D8 := iw; have Iq := iQ; have Ip := jk; clear bT dD dQ eH iw iQ jk; clear hb hbox hg; have ah9 := Iq.out; have ah7 := Ip.out; have tu : w4.cell? ⟨rX, 0, none⟩ = some (.int .i64 aQ) := (aj mG.out 0).trans rfl; have tq : w4.cell? ⟨rX, 1, none⟩ = some (.int .i64 a_) := (aj mG.out 1).trans rfl; have uK : w4.cell? ⟨rX, 2, none⟩ = some (.slice cO aY.length cu) := (aj mG.out 2).trans rfl; have sV := aA mG.out 0; have sU := aA mG.out 1; have uJ := aA mG.out 2) | ((with_reducible refine aV (f := 38) rfl ?_); refine cZ (some 9) rfl rfl Try.func38 (by kernel_rfl) rfl #[.agg #[.int .i64 aQ, .int .i64 a_, .slice cO aY.length cu]] rfl (by (try simp only [List.map_toArray, List.map_cons, List.map_nil]); first | done | rfl | (simp only [List.length_drop, List.length_take]; rfl)) ?_; (with_reducible refine (uF.calls aQ a_ _ _ aY t164 t165 t166 t169 t170 _ ?eY ?eX A2.out).mono ?_); (case eY => repeat (first | exact (Kd.fB kC.out HB.out) | (with_reducible refine Kd.fE ?_ _) | (with_reducible refine Kd.fD ?_ _) | (with_reducible refine Kd.gm ?_))); (case eX => exact lM.out); rintro e w7 ⟨v167, rfl, ho0, hb⟩; refine ⟨_, rfl, ?_⟩; have bT := ah.mk (Kd.jG ho0 (aW (by repeat (first | (with_reducible first | exact HB.out | apply au | apply af | apply ak | refine aG ?_ yO.out | refine aG ?_ D8.out) | exact HB.out)))); have dD := ah.mk (bg (g := rX) (o := .cells #[.int .i64 aQ, .int .i64 a_, .slice cO aY.length cu] 26 (0, 0)) (by (with_reducible repeat (first | refine ay ?_ _ | refine aC ?_ | refine az ?_ _)); exact mG.out) hb); have dQ := ah.mk (bg (g := qR) (o := .cells #[.int .i64 0, .int .i64 0, .slice none 0 0] 26 (0, 0)) (by (with_reducible repeat (first | refine ay ?_ _ | refine aC ?_ | refine az ?_ _)); exact nS.out) hb); have eH := ah.mk (aI (by repeat (first | (with_reducible first | exact HB.out | apply au | apply af | apply ak | refine aG ?_ yO.out | refine aG ?_ D8.out) | exact HB.out)) hb); clear mG; clear nS; clear HB; have L_ := bT; have mG := dD; have nS := dQ; have HB := eH; clear bT dD dQ eH; (try clear hb); (try clear hb2); (try clear hk); (try clear hi); (try clear ho0)) | ((with_reducible refine dY (N := 3) rfl ?_); refine dH ?hg (N := 3) ?hd (cs := #[.int .i64 0, .int .i64 0, .slice none 0 0]) (t := 26) ?hr ?_; (case hd => rfl); (case hg => rfl); (case hr => first | (go_simp; done) | (go_simp; rfl)); intro qH hg w8 hbox hb; have bT := ah.mk (Kd.iO (by (with_reducible repeat (first | apply Kd.bZ | apply Kd.bY | apply Kd.dA)); exact L_.out) hb); have dD := ah.mk (bg (g := rX) (o := .cells #[.int .i64 aQ, .int .i64 a_, .slice cO aY.length cu] 26 (0, 0)) (by (with_reducible repeat (first | refine ay ?_ _ | refine aC ?_ | refine az ?_ _)); exact mG.out) hb); have dQ := ah.mk (bg (g := qR) (o := .cells #[.int .i64 0, .int .i64 0, .slice none 0 0] 26 (0, 0)) (by (with_reducible repeat (first | refine ay ?_ _ | refine aC ?_ | refine az ?_ _)); exact nS.out) hb); have eH := ah.mk (aI (by repeat (first | (with_reducible first | exact HB.out | apply au | apply af | apply ak | refine aG ?_ yO.out | refine aG ?_ D8.out) | exact HB.out)) hb); have iw := ah.mk (hbox); have iQ := ah.mk ((by rw [hg]; exact (aW (by repeat (first | (with_reducible first | exact HB.out | apply au | apply af | apply ak | refine aG ?_ yO.out | refine aG ?_ D8.out) | exact HB.out))) : w.heap.size ≤ qH)); have jk := ah.mk ((by rw [hg]; exact (aW (by repeat (first | (with_reducible first | exact HB.out | apply au | apply af | apply ak | refine aG ?_ yO.out | refine aG ?_ D8.out) | exact HB.out))) : w.heap.size ≤ qH)); have mQ := ah.mk ((by rw [hg]; exact Nat.ne_of_lt (dP (g := rX) (o := .cells #[.int .i64 aQ, .int .i64 a_, .slice cO aY.length cu] 26 (0, 0)) (by (with_reducible repeat (first | refine ay ?_ _ | refine aC ?_ | refine az ?_ _)); exact mG.out)) : rX ≠ qH)); have qA := ah.mk ((by rw [hg]; exact Nat.ne_of_gt (dP (g := rX) (o := .cells #[.int .i64 aQ, .int .i64 a_, .slice cO aY.length cu] 26 (0, 0)) (by (with_reducible repeat (first | refine ay ?_ _ | refine aC ?_ | refine az ?_ _)); exact mG.out)) : qH ≠ rX)); have uD := ah.mk ((by rw [hg]; exact Nat.ne_of_lt (dP (g := qR) (o := .cells #[.int .i64 0, .int .i64 0, .slice none 0 0] 26 (0, 0)) (by (with_reducible repeat (first | refine ay ?_ _ | refine aC ?_ | refine az ?_ _)); exact nS.out)) : qR ≠ qH)); have kP := ah.mk ((by rw [hg]; exact Nat.ne_of_gt (dP (g := qR) (o := .cells #[.int .i64 0, .int .i64 0, .slice none 0 0] 26 (0, 0)) (by (with_reducible repeat (first | refine ay ?_ _ | refine aC ?_ | refine az ?_ _)); exact nS.out)) : qH ≠ qR)); clear L_; clear mG; clear nS; clear HB; have L_ := bT; have mG := dD; have nS := dQ; have HB := eH; have nR := iw; have amu := iQ; have UR := jk; have wU := mQ; have Io := qA; have wS := uD; have Il := kP; clear bT dD dQ eH iw iQ jk mQ qA uD kP; clear hb hbox hg; have ah8 := Io.out; have ah6 := wU.out; have Pj := Il.out; have Pg := wS.out; have vJ : w8.cell? ⟨qH, 0, none⟩ = some (.int .i64 0) := (aj nR.out 0).trans rfl; have vI : w8.cell? ⟨qH, 1, none⟩ = some (.int .i64 0) := (aj nR.out 1).trans rfl; have vH : w8.cell? ⟨qH, 2, none⟩ = some (.slice none 0 0) := (aj nR.out 2).trans rfl; have vG := aA nR.out 0; have vF := aA nR.out 1; have vC := aA nR.out 2; obtain ⟨MB, LP, Ua⟩ := Kd.iq L_.out; subst Ua))
 go_loopg [15] k (fun kq v15 w' => ∃ (kL : Int) (iU : List Int) (Em : Value), v15 = .int .i64 kL ∧ ah (fH.l0 kq t164 kL t164 t165 iU = some (r1, r2, r3)) ∧ ah (kq ≤ k) ∧ ah (Kd.R (Kd.int .i64) 22 w' w.heap.size (fun _ => True) Em iU) ∧ ah (w'.heap[rX]? = some (.cells #[.int .i64 aQ, .int .i64 a_, (.slice cO aY.length cu)] 26 (0, 0))) ∧ ah (w'.heap[qR]? = some (.cells #[.int .i64 0, .int .i64 0, (.slice none 0 0)] 26 (0, 0))) ∧ ah (w'.heap[qH]? = some (.cells #[.int .i64 t164, .int .i64 t165, Em] 26 (0, 0))) ∧ ah (Below w.heap.size w w'))
 case atStart => exact ⟨(0), (t166), (.slice MB t166.length LP), (by first | rfl | (simp; done) | (simp [*]; done)), H', ⟨Nat.le_refl _⟩, ⟨by (with_reducible repeat (first | apply Kd.bZ | apply Kd.bY | apply Kd.dA)); exact Kd.fQ (Kd.dM (p := ⟨qH, 2, none⟩) (Kd.dM (p := ⟨qH, 1, none⟩) (Kd.dM (p := ⟨qH, 0, none⟩) (Kd.iM L_.out nR.out (by decide)) (fun _ hk => hk.2) (.int .i64 t164)) (fun _ hk => hk.2) (.int .i64 t165)) (fun _ hk => hk.2) (.slice MB t166.length LP)) (fun _ hk => trivial)⟩, ⟨by (with_reducible repeat (first | refine ay ?_ _ | refine aC ?_ | refine az ?_ _)); refine dL ?_ wU.out _; (with_reducible repeat (first | refine ay ?_ _ | refine aC ?_ | refine az ?_ _)); refine dL ?_ wU.out _; (with_reducible repeat (first | refine ay ?_ _ | refine aC ?_ | refine az ?_ _)); refine dL ?_ wU.out _; (with_reducible repeat (first | refine ay ?_ _ | refine aC ?_ | refine az ?_ _)); exact mG.out⟩, ⟨by (with_reducible repeat (first | refine ay ?_ _ | refine aC ?_ | refine az ?_ _)); refine dL ?_ wS.out _; (with_reducible repeat (first | refine ay ?_ _ | refine aC ?_ | refine az ?_ _)); refine dL ?_ wS.out _; (with_reducible repeat (first | refine ay ?_ _ | refine aC ?_ | refine az ?_ _)); refine dL ?_ wS.out _; (with_reducible repeat (first | refine ay ?_ _ | refine aC ?_ | refine az ?_ _)); exact nS.out⟩, ⟨by (with_reducible repeat (first | refine ay ?_ _ | refine aC ?_ | refine az ?_ _)); refine bQ (cs := #[.int .i64 t164, .int .i64 t165, .slice none 0 0]) ?_ 2 _ rfl; (with_reducible repeat (first | refine ay ?_ _ | refine aC ?_ | refine az ?_ _)); refine bQ (cs := #[.int .i64 t164, .int .i64 0, .slice none 0 0]) ?_ 1 _ rfl; (with_reducible repeat (first | refine ay ?_ _ | refine aC ?_ | refine az ?_ _)); refine bQ (cs := #[.int .i64 0, .int .i64 0, .slice none 0 0]) ?_ 0 _ rfl; (with_reducible repeat (first | refine ay ?_ _ | refine aC ?_ | refine az ?_ _)); exact nR.out⟩, ⟨by repeat (first | (with_reducible first | exact HB.out | apply au | apply af | apply ak | refine aG ?_ yO.out | refine aG ?_ D8.out | refine aG ?_ UR.out) | exact HB.out)⟩⟩
 case round =>
  clear H'
  try clear c1
  try clear p2
  try clear c3
  try clear c5
  try clear c9
  try clear c10
  try clear vJ
  try clear vI
  try clear vH
  try clear tu
  try clear tq
  try clear uK
  try clear vG
  try clear vF
  try clear vC
  try clear sV
  try clear sU
  try clear uJ
  obtain ⟨kL, iU, Em, rfl, HA, Aq, kG, mG, nS, nR, HB⟩ := hrel
  cases gk with
  | zero => exact absurd HA.out (by simp [fH.l0])
  | succ k1 =>
    have H := HA.out
    clear HA
    simp only [fH.l0] at H
    by_cases c13 : kL < t164
    · rw [if_pos c13] at H
      have tN : decide (kL < t164) = true := decide_eq_true c13
      clear c13
      obtain ⟨kN, Fq⟩ : ∃ j_ : Int, (wrap64 ((wrap64 (kL * t165)) + kL)) = j_ := ⟨_, rfl⟩
      replace H : (if 0 ≤ (kN) then (if (kN) < (iU.length : Int) then (fH.l0 k1 t164 (wrap64 (kL + 1)) t164 t165 (iU.set ((kN) : Int).toNat (mx (rd iU (kN)) 0))) else (none)) else (none)) = some (r1, r2, r3) := by first | (rw [Fq] at H; exact H) | (simp only [Fq] at H ⊢; exact H)
      have Ze : (IntKind.i64.wrap ((wrap64 (kL * t165)) + kL)) = kN := (aJ _).trans Fq
      by_cases c15 : 0 ≤ (kN)
      · rw [if_pos c15] at H
        have Gp : decide (0 ≤ (kN)) = true := decide_eq_true c15
        clear c15
        by_cases c16 : (kN) < (iU.length : Int)
        · rw [if_pos c16] at H
          have DX : decide ((kN) < (iU.length : Int)) = true := decide_eq_true c16
          clear c16
          obtain ⟨mJ, uH⟩ : ∃ j_ : Int, (mx (rd iU (kN)) 0) = j_ := ⟨_, rfl⟩
          replace H : (fH.l0 k1 t164 (wrap64 (kL + 1)) t164 t165 (iU.set ((kN) : Int).toNat (mJ))) = some (r1, r2, r3) := by first | (rw [uH] at H; exact H) | (simp only [uH] at H ⊢; exact H)
          have Zd : (if (rd iU (kN)) < 0 then 0 else (rd iU (kN))) = mJ := uH
          obtain ⟨aaA, La⟩ : ∃ y_ : List Int, y_ = (iU.set ((kN) : Int).toNat (mJ)) := ⟨_, rfl⟩
          replace H : (fH.l0 k1 t164 (wrap64 (kL + 1)) t164 t165 aaA) = some (r1, r2, r3) := by first | (rw [La]; with_reducible exact H) | (have Dt := (Option.bind_some _ _).symm.trans H; rw [La]; with_reducible exact Dt) | (have Dt := (Option.bind_some _ _).symm.trans H; with_reducible exact Dt) | with_reducible exact H | (rw [La]; exact H) | exact H
          have acE := ah.mk La
          clear La
          have H' := ah.mk H
          clear H
          try go_wp2
          have bT := ah.mk (Kd.dA kG.out)
          have dD := ah.mk (aC mG.out)
          have dQ := ah.mk (aC nS.out)
          have eH := ah.mk (aC nR.out)
          have iw := ah.mk (ak HB.out)
          clear kG
          clear mG
          clear nS
          clear nR
          clear HB
          have kG := bT
          have mG := dD
          have nS := dQ
          have nR := eH
          have HB := iw
          clear bT dD dQ eH iw
          obtain ⟨wF, uo, LG⟩ := Kd.iq kG.out
          (first | subst LG | (injection LG with tH zN tC; have zM := tH.symm; have zL := tC.symm; clear tH zN tC; subst zM; subst zL))
          have Y4 : 0 ≤ ((kN) : Int) := of_decide_eq_true (by first | (with_reducible assumption) | assumption)
          have YZ : (kN) < (iU.length : Int) := of_decide_eq_true (by first | (with_reducible assumption) | assumption)
          obtain ⟨alz, aiZ, Jh⟩ := Kd.jv (Kd.jB kG.out).2.2 (kN) Y4 YZ
          cases aiZ
          replace Y4 := eq_true Y4
          replace YZ := eq_true YZ
          have Y3 : 0 ≤ ((kN) : Int) := of_decide_eq_true (by first | (with_reducible assumption) | assumption)
          have YY : ((kN) : Int) < ((iU.length : Int) : Int) := of_decide_eq_true (by first | (with_reducible assumption) | assumption)
          obtain ⟨JD, JL, Bv, TR, Zm, ai4, UM⟩ := Kd.JV kG.out (by omega)
          (first | cases Bv | (injection Bv with JI Zq Zr; (first | subst JI | (injection JI with JI; subst JI)); subst Zr; clear Zq))
          have aae := ah.mk TR
          have adb := ah.mk UM
          clear TR Zm UM
          (first | simp only [add_plain] at Jh | skip)
          obtain ⟨TF, TL⟩ := Kd.EN 0 kG.out ((kN) : Int) Y3 YY
          replace Y3 := eq_true Y3
          replace YY := eq_true YY
          have Z9 := Kd.Ot kG.out ((kN) : Int) mJ
          rw [← acE.out] at Z9
          have acY := ah.mk Z9
          clear Z9
          refine oV (n := 21) (S := fun w' => w'.cell? ⟨qH, 0, none⟩ = some (.int .i64 t164) ∧ w'.cell? ⟨qH, 1, none⟩ = some (.int .i64 t165) ∧ w'.cell? ⟨qH, 2, none⟩ = some (.slice (some ⟨JD, 0, none⟩) iU.length uo) ∧ w'.cell? ⟨JD, ((kN)).toNat, none⟩ = some (.int .i64 (rd iU (kN)))) (ds := [20]) #[false, false, false, false, false, false, false, false, false, false, false, false, false, false, false, false, false, false, false, false, false] (by kernel_rfl) rfl rfl ⟨(aj nR.out 0).trans rfl, (aj nR.out 1).trans rfl, (aj nR.out 2).trans rfl, Jh⟩ (fun hHeld => ?_); refine jJ fH.ahK fH.abQ (fun dF pI => ?_)
          generalize wr.drew = Eb at kG mG nS nR HB adb acY TL Jh TF hHeld ⊢
          refine bf (i := 0) (N := some 18) (v := ?_) (a' := ?_) #[true, false, false, false, false, false, false, false, false, false, false, false, false, false, false, false, false, false, false, false, false] rfl rfl (aN dF.out (by kernel_rfl)) (fun _ _ _ h => h) (Or.inl ⟨by rfl, ?_⟩) ?_ ?_
          rotate_left
          · intro w'
            go_simp
            with_reducible rfl
          rotate_left
          · simp only [Act.put, List.setIfInBounds_toArray, List.set_cons_zero, List.set_cons_succ, aJ, aK]
            rfl
          refine bf (i := 2) (N := some 20) (v := ?_) (a' := ?_) #[true, false, true, false, false, false, false, false, false, false, false, false, false, false, false, false, false, false, false, false, false] rfl rfl (aN dF.out (by kernel_rfl)) (fun _ _ _ h => h) (Or.inl ⟨by rfl, ?_⟩) ?_ ?_
          rotate_left
          · intro w'
            go_simp
            with_reducible rfl
          rotate_left
          · simp only [Act.put, List.setIfInBounds_toArray, List.set_cons_zero, List.set_cons_succ, aJ, aK]
            rfl
          refine bf (i := 3) (N := some 21) (v := ?_) (a' := ?_) #[true, false, true, true, false, false, false, false, false, false, false, false, false, false, false, false, false, false, false, false, false] rfl rfl (aN dF.out (by kernel_rfl)) (fun _ _ _ h => h) (Or.inl ⟨by rfl, ?_⟩) ?_ ?_
          rotate_left
          · intro w'
            go_simp
            with_reducible rfl
          rotate_left
          · simp only [Act.put, List.setIfInBounds_toArray, List.set_cons_zero, List.set_cons_succ, aJ, aK]
            rfl
          refine bf (i := 6) (N := some 24) (v := ?_) (a' := ?_) #[true, false, true, true, false, false, true, false, false, false, false, false, false, false, false, false, false, false, false, false, false] rfl rfl (aN dF.out (by kernel_rfl)) (fun _ _ _ h => h) (Or.inl ⟨by rfl, ?_⟩) ?_ ?_
          rotate_left
          · intro w'
            go_simp
            with_reducible rfl
          rotate_left
          · simp only [Act.put, List.setIfInBounds_toArray, List.set_cons_zero, List.set_cons_succ, aJ, aK]
            rfl
          refine bf (i := 8) (N := some 26) (v := ?_) (a' := ?_) #[true, false, true, true, false, false, true, false, true, false, false, false, false, false, false, false, false, false, false, false, false] rfl rfl (aN dF.out (by kernel_rfl)) (fun _ _ _ h => h) (Or.inl ⟨by rfl, ?_⟩) ?_ ?_
          rotate_left
          · intro w'
            go_simp
            with_reducible rfl
          rotate_left
          · simp only [Act.put, List.setIfInBounds_toArray, List.set_cons_zero, List.set_cons_succ, aJ, aK]
            rfl
          refine bf (i := 10) (N := some 28) (v := ?_) (a' := ?_) #[true, false, true, true, false, false, true, false, true, false, true, false, false, false, false, false, false, false, false, false, false] rfl rfl (aN dF.out (by kernel_rfl)) (fun _ _ _ h => h) (Or.inl ⟨by rfl, ?_⟩) ?_ ?_
          rotate_left
          · intro w'
            go_simp
            with_reducible rfl
          rotate_left
          · simp only [Act.put, List.setIfInBounds_toArray, List.set_cons_zero, List.set_cons_succ, aJ, aK]
            rfl
          refine bf (i := 11) (N := some 29) (v := ?_) (a' := ?_) #[true, false, true, true, false, false, true, false, true, false, true, true, false, false, false, false, false, false, false, false, false] rfl rfl (aN dF.out (by kernel_rfl)) (fun _ _ _ h => h) (Or.inl ⟨by rfl, ?_⟩) ?_ ?_
          rotate_left
          · intro w'
            go_simp
            with_reducible rfl
          rotate_left
          · simp only [Act.put, List.setIfInBounds_toArray, List.set_cons_zero, List.set_cons_succ, aJ, aK]
            rfl
          refine bf (i := 14) (N := some 32) (v := ?_) (a' := ?_) #[true, false, true, true, false, false, true, false, true, false, true, true, false, false, true, false, false, false, false, false, false] rfl rfl (aN dF.out (by kernel_rfl)) (fun _ _ _ h => h) (Or.inl ⟨by rfl, ?_⟩) ?_ ?_
          rotate_left
          · intro w'
            go_simp
            with_reducible rfl
          rotate_left
          · simp only [Act.put, List.setIfInBounds_toArray, List.set_cons_zero, List.set_cons_succ, aJ, aK]
            rfl
          refine iP (i := 1) (N := some 19) (v := ?_) (a' := ?_) #[true, true, true, true, false, false, true, false, true, false, true, true, false, false, true, false, false, false, false, false, false] rfl rfl (eF dF.out pI.out (by kernel_rfl)) (fun _ _ _ h => h) (Or.inl ⟨by rfl, ?_⟩) hHeld ?_ ?_
          rotate_left
          · rintro w' ⟨s0, s1, s2, s3⟩
            go_simp
            with_reducible rfl
          rotate_left
          · simp only [Act.put, List.setIfInBounds_toArray, List.set_cons_zero, List.set_cons_succ, aJ, aK]
            rfl
          refine iP (i := 4) (N := some 22) (v := ?_) (a' := ?_) #[true, true, true, true, true, false, true, false, true, false, true, true, false, false, true, false, false, false, false, false, false] rfl rfl (eF dF.out pI.out (by kernel_rfl)) (fun _ _ _ h => h) (Or.inl ⟨by rfl, ?_⟩) hHeld ?_ ?_
          rotate_left
          · rintro w' ⟨s0, s1, s2, s3⟩
            go_simp
            with_reducible rfl
          rotate_left
          · simp only [Act.put, List.setIfInBounds_toArray, List.set_cons_zero, List.set_cons_succ, aJ, aK]
            rfl
          refine bf (i := 5) (N := some 23) (v := ?_) (a' := ?_) #[true, true, true, true, true, true, true, false, true, false, true, true, false, false, true, false, false, false, false, false, false] rfl rfl (aN dF.out (by kernel_rfl)) (fun _ _ _ h => h) (Or.inl ⟨by rfl, ?_⟩) ?_ ?_
          rotate_left
          · intro w'
            go_simp
            with_reducible rfl
          rotate_left
          · simp only [Act.put, List.setIfInBounds_toArray, List.set_cons_zero, List.set_cons_succ, aJ, aK]
            rfl
          refine bf (i := 7) (N := some 25) (v := ?_) (a' := ?_) #[true, true, true, true, true, true, true, true, true, false, true, true, false, false, true, false, false, false, false, false, false] rfl rfl (aN dF.out (by kernel_rfl)) (fun _ _ _ h => h) (Or.inl ⟨by rfl, ?_⟩) ?_ ?_
          rotate_left
          · intro w'
            go_simp
            with_reducible rfl
          rotate_left
          · simp only [Act.put, List.setIfInBounds_toArray, List.set_cons_zero, List.set_cons_succ, aJ, aK]
            rfl
          refine iP (i := 9) (N := some 27) (v := ?_) (a' := ?_) #[true, true, true, true, true, true, true, true, true, true, true, true, false, false, true, false, false, false, false, false, false] rfl rfl (eF dF.out pI.out (by kernel_rfl)) (fun _ _ _ h => h) (Or.inl ⟨by rfl, ?_⟩) hHeld ?_ ?_
          rotate_left
          · rintro w' ⟨s0, s1, s2, s3⟩
            go_simp
            with_reducible rfl
          rotate_left
          · simp only [Act.put, List.setIfInBounds_toArray, List.set_cons_zero, List.set_cons_succ, aJ, aK]
            rfl
          refine iP (i := 12) (N := some 30) (v := ?_) (a' := ?_) #[true, true, true, true, true, true, true, true, true, true, true, true, true, false, true, false, false, false, false, false, false] rfl rfl (eF dF.out pI.out (by kernel_rfl)) (fun _ _ _ h => h) (Or.inl ⟨by rfl, ?_⟩) hHeld ?_ ?_
          rotate_left
          · rintro w' ⟨s0, s1, s2, s3⟩
            go_simp
            with_reducible rfl
          rotate_left
          · simp only [Act.put, List.setIfInBounds_toArray, List.set_cons_zero, List.set_cons_succ, aJ, aK]
            rfl
          refine bf (i := 13) (N := some 31) (v := ?_) (a' := ?_) #[true, true, true, true, true, true, true, true, true, true, true, true, true, true, true, false, false, false, false, false, false] rfl rfl (aN dF.out (by kernel_rfl)) (fun _ _ _ h => h) (Or.inl ⟨by rfl, ?_⟩) ?_ ?_
          rotate_left
          · intro w'
            go_simp
            with_reducible rfl
          rotate_left
          · simp only [Act.put, List.setIfInBounds_toArray, List.set_cons_zero, List.set_cons_succ, aJ, aK]
            rfl
          refine bf (i := 15) (N := some 33) (v := ?_) (a' := ?_) #[true, true, true, true, true, true, true, true, true, true, true, true, true, true, true, true, false, false, false, false, false] rfl rfl (aN dF.out (by kernel_rfl)) (fun _ _ _ h => h) (Or.inl ⟨by rfl, ?_⟩) ?_ ?_
          rotate_left
          · intro w'
            go_simp
            with_reducible rfl
          rotate_left
          · simp only [Act.put, List.setIfInBounds_toArray, List.set_cons_zero, List.set_cons_succ, aJ, aK]
            rfl
          refine bf (i := 16) (N := some 34) (v := ?_) (a' := ?_) #[true, true, true, true, true, true, true, true, true, true, true, true, true, true, true, true, true, false, false, false, false] rfl rfl (aN dF.out (by kernel_rfl)) (fun _ _ _ h => h) (Or.inl ⟨by rfl, ?_⟩) ?_ ?_
          rotate_left
          · intro w'
            go_simp
            with_reducible rfl
          rotate_left
          · simp only [Act.put, List.setIfInBounds_toArray, List.set_cons_zero, List.set_cons_succ, aJ, aK]
            rfl
          refine iP (i := 17) (N := some 35) (v := ?_) (a' := ?_) #[true, true, true, true, true, true, true, true, true, true, true, true, true, true, true, true, true, true, false, false, false] rfl rfl (eF dF.out pI.out (by kernel_rfl)) (fun _ _ _ h => h) (Or.inl ⟨by rfl, ?_⟩) hHeld ?_ ?_
          rotate_left
          · rintro w' ⟨s0, s1, s2, s3⟩
            go_simp
            with_reducible rfl
          rotate_left
          · simp only [Act.put, List.setIfInBounds_toArray, List.set_cons_zero, List.set_cons_succ, aJ, aK]
            rfl
          refine bf (i := 18) (N := some 36) (v := ?_) (a' := ?_) #[true, true, true, true, true, true, true, true, true, true, true, true, true, true, true, true, true, true, true, false, false] rfl rfl (aN dF.out (by kernel_rfl)) (fun _ _ _ h => h) (Or.inl ⟨by rfl, ?_⟩) ?_ ?_
          rotate_left
          · intro w'
            go_simp
            with_reducible rfl
          rotate_left
          · simp only [Act.put, List.setIfInBounds_toArray, List.set_cons_zero, List.set_cons_succ, aJ, aK]
            rfl
          refine bf (i := 19) (N := some 37) (v := ?_) (a' := ?_) #[true, true, true, true, true, true, true, true, true, true, true, true, true, true, true, true, true, true, true, true, false] rfl rfl (aN dF.out (by kernel_rfl)) (fun _ _ _ h => h) (Or.inl ⟨by rfl, ?_⟩) ?_ ?_
          rotate_left
          · intro w'
            go_simp
            with_reducible rfl
          rotate_left
          · simp only [Act.put, List.setIfInBounds_toArray, List.set_cons_zero, List.set_cons_succ, aJ, aK]
            rfl
          refine TA (i := 20) (N := none) #[true, true, true, true, true, true, true, true, true, true, true, true, true, true, true, true, true, true, true, true, true] rfl rfl (iF dF.out (by kernel_rfl)) (by decide) (fun K hK => ?_)
          refine Du (w1 := ?_) (by rfl) rfl ?_ ?_
          rotate_left
          · go_simp
            rfl
          refine hK.out _ _ ?_
          clear hK K
          refine tJ (lW dF.out (by kernel_rfl)) ?_
          try go_wp2
          go_roundg k1
          case measure => have := Aq.out; omega
          case rel => exact ⟨(wrap64 (kL + 1)), (aaA), (.slice (some ⟨JD, 0, none⟩) iU.length uo), (by first | rfl | (simp; done) | (simp [*]; done)), H', ⟨by have := Aq.out; omega⟩, ⟨by (with_reducible repeat (first | apply Kd.bZ | apply Kd.bY | apply Kd.dA)); exact acY.out⟩, ⟨by (with_reducible repeat (first | refine ay ?_ _ | refine aC ?_ | refine az ?_ _)); refine dL ?_ (by have h_ := Kd.wO kG.out mG.out (by decide); intro e_; exact h_ (by rw [e_]; rfl)) _; (with_reducible repeat (first | refine ay ?_ _ | refine aC ?_ | refine az ?_ _)); exact mG.out⟩, ⟨by (with_reducible repeat (first | refine ay ?_ _ | refine aC ?_ | refine az ?_ _)); refine dL ?_ (by have h_ := Kd.wO kG.out nS.out (by decide); intro e_; exact h_ (by rw [e_]; rfl)) _; (with_reducible repeat (first | refine ay ?_ _ | refine aC ?_ | refine az ?_ _)); exact nS.out⟩, ⟨by (with_reducible repeat (first | refine ay ?_ _ | refine aC ?_ | refine az ?_ _)); refine dL ?_ (by have h_ := Kd.wO kG.out nR.out (by decide); intro e_; exact h_ (by rw [e_]; rfl)) _; (with_reducible repeat (first | refine ay ?_ _ | refine aC ?_ | refine az ?_ _)); exact nR.out⟩, ⟨by repeat (first | (with_reducible first | exact HB.out | apply au | apply af | apply ak | refine aG ?_ aae.out | refine aG ?_ yO.out | refine aG ?_ D8.out | refine aG ?_ UR.out) | exact HB.out)⟩⟩
        · rw [if_neg c16] at H
          exact absurd H (by simp)
      · rw [if_neg c15] at H
        exact absurd H (by simp)
    · rw [if_neg c13] at H
      have tN : decide (kL < t164) = false := decide_eq_false c13
      clear c13
      simp only [Option.some.injEq, Prod.mk.injEq] at H
      obtain ⟨rfl, rfl, rfl⟩ := H
      have Yi := Io.out
      have Yf := wU.out
      have aa6 := Il.out
      have aaY := wS.out
      have EG : wr.cell? ⟨qH, 0, none⟩ = some (.int .i64 t164) := (aj nR.out 0).trans rfl
      have EF : wr.cell? ⟨qH, 1, none⟩ = some (.int .i64 t165) := (aj nR.out 1).trans rfl
      have EE : wr.cell? ⟨qH, 2, none⟩ = some (Em) := (aj nR.out 2).trans rfl
      have Ey := aA nR.out 0
      have Ew := aA nR.out 1
      have Eu := aA nR.out 2
      have Yh := Ip.out
      have Ye := Iq.out
      have WZ : wr.cell? ⟨qR, 0, none⟩ = some (.int .i64 0) := (aj nS.out 0).trans rfl
      have WY : wr.cell? ⟨qR, 1, none⟩ = some (.int .i64 0) := (aj nS.out 1).trans rfl
      have WX : wr.cell? ⟨qR, 2, none⟩ = some (.slice none 0 0) := (aj nS.out 2).trans rfl
      have V3 := aA nS.out 0
      have VZ := aA nS.out 1
      have VY := aA nS.out 2
      obtain ⟨adm, XE, XA⟩ := Kd.iq kG.out
      subst XA
      go_wp2
      refine bodyPost_ret (results_cell_row rfl _ _ qR 26 #[.int .i64 t164, .int .i64 t165, .slice adm iU.length XE] (0, 0) _ rfl (by (with_reducible repeat (first | refine ay ?_ _ | refine aC ?_ | refine az ?_ _)); refine bQ (cs := #[.int .i64 t164, .int .i64 t165, .slice none 0 0]) ?_ 2 _ rfl; (with_reducible repeat (first | refine ay ?_ _ | refine aC ?_ | refine az ?_ _)); refine bQ (cs := #[.int .i64 t164, .int .i64 0, .slice none 0 0]) ?_ 1 _ rfl; (with_reducible repeat (first | refine ay ?_ _ | refine aC ?_ | refine az ?_ _)); refine bQ (cs := #[.int .i64 0, .int .i64 0, .slice none 0 0]) ?_ 0 _ rfl; (with_reducible repeat (first | refine ay ?_ _ | refine aC ?_ | refine az ?_ _)); exact nS.out) Try.underlying26 rfl (by kernel_rfl)) rfl ?_
      exact ⟨_, by first | rfl | (simp [aU, aT] <;> rfl) | (simp [*, aU, aT] <;> rfl), by (with_reducible repeat (first | apply Kd.bZ | apply Kd.bY | apply Kd.dA)); exact Kd.fQ (Kd.dM (p := ⟨qR, 2, none⟩) (Kd.dM (p := ⟨qR, 1, none⟩) (Kd.dM (p := ⟨qR, 0, none⟩) (Kd.iM kG.out nS.out (by decide)) (fun _ hk => hk.2) (.int .i64 t164)) (fun _ hk => hk.2) (.int .i64 t165)) (fun _ hk => hk.2) (.slice adm iU.length XE)) (fun _ hk => trivial), by repeat (first | (with_reducible first | exact HB.out | apply au | apply af | apply ak | refine aG ?_ yO.out | refine aG ?_ D8.out | refine aG ?_ UR.out) | exact HB.out)⟩
end Go.Proofs.Ytninmcmajbfccaa.PR

namespace Go.Proofs.Ytninmcmajbfccaa.PR
open Go.RowKit Go.Proofs.Ytninmcmajbfccaa.PQ Go.Proofs.aH.bK Go.Proofs.aH.dG Go.Proofs.aH.dJ Go.Proofs.Ytninmcmajbfccaa.KK
set_option linter.unusedVariables false
set_option linter.unusedSimpArgs false
theorem _root_.Go.Proofs.Ytninmcmajbfccaa.KK.Rd.touch {w w' : World} {A : Option Addr} {l : List Int} {g : Nat} (h : Rd w A l) (hg : w.grownBy w' (some g)) (hne : ∀ ad, A = some ad → 0 < l.length → ad.block ≠ g) : Rd w' A l := by
 refine ⟨h.1, h.2.1, fun hp => ?_⟩
 obtain ⟨ad, e, hc⟩ := h.2.2 hp
 refine ⟨ad, e, fun j p hj => ?_⟩
 obtain ⟨c, h1, h2, h3⟩ := hc j p hj
 refine ⟨c, h1, h2, fun i u hi => ?_⟩
 have hx := h3 i u hi
 have hb : (ad.add (j * (Kd.int .i64).sz + i)).block = ad.block := JQ _ _
 have hlt := cell_lt hx
 rw [hb] at hlt
 have hk := hg.block ad.block hlt (fun e' => hne ad e hp (by injection e'))
 rw [← hx]
 unfold World.cell?
 rw [hb, hk]
theorem _root_.Go.Proofs.Ytninmcmajbfccaa.KK.Own.touch {w w' : World} {base g : Nat} {v : Value} {l : List Int} (h : Own w base v l) (hg : w.grownBy w' (some g)) (hb : g < base) : Own w' base v l :=
 Own.Ac (wI h.row fun k hk => hg.block k (h.row.lt k hk).2 (fun e => by have := (h.row.lt k hk).1; injection e with e; omega))
structure Sg (w0 : World) (g : Nat) (L : List (TypeId × Array Value)) (w : World) : Prop where
 rows : KK.Rows w w0.heap.size L
 gr : w0.grownBy w (some g)
section
variable {w w' w0 : World} {g : Nat} {L : List (TypeId × Array Value)}
theorem Sg.of (h : fF w0 L w) : Sg w0 g L w := ⟨h.rows, KK.nV h.be _⟩
theorem Sg.below (h : Sg w0 g L w) (hb : Below w.heap.size w w') : Sg w0 g L w' := ⟨h.rows.below hb, yC h.gr (KK.nV hb _)⟩
theorem Sg.alloc (h : Sg w0 g L w) (o : Obj) : Sg w0 g L (w.alloc o) := h.below ((Below.refl _ _).alloc (Nat.le_refl _) o)
theorem Sg.drew (h : Sg w0 g L w) : Sg w0 g L w.drew := h.below (Below.refl _ _).drew
theorem Sg.touch (h : Sg w0 g L w) (hg : w.grownBy w' (some g)) (hlt : g < w0.heap.size) : Sg w0 g L w' :=
 ⟨h.rows.imp fun k t cs hk _ r => r.grown hg (fun e => by injection e with e; omega), yC h.gr hg⟩
variable {x0 x1 x2 x3 x4 x5 : TypeId × Array Value}
theorem Sg.r0 (h : Sg w0 g (x0 :: L) w) : Row w w0.heap.size x0.1 x0.2 := h.rows.1
theorem Sg.r1 (h : Sg w0 g (x0 :: x1 :: L) w) : Row w (w0.heap.size + 1) x1.1 x1.2 := h.rows.2.1
theorem Sg.r2 (h : Sg w0 g (x0 :: x1 :: x2 :: L) w) : Row w (w0.heap.size + 1 + 1) x2.1 x2.2 := h.rows.2.2.1
theorem Sg.r3 (h : Sg w0 g (x0 :: x1 :: x2 :: x3 :: L) w) : Row w (w0.heap.size + 1 + 1 + 1) x3.1 x3.2 := h.rows.2.2.2.1
end
theorem KF (g : Nat) (s o : Bool) (q : Int) (w : World) (R : Row w g 77 #[.bool s]) :
 Calls Try.prog 34 #[.pointer (some ⟨g, 0, none⟩), I q, .bool o] w fun e w' => e = .returned (I q) ∧ Row w' g 77 #[.bool (s || o)] ∧ w.grownBy w' (some g) := by
 have x := R.cell
 have f := R.free
 have HR := Lib.hid (R.set 0 (.bool (s || o)))
 have HG : Hid (w.grownBy (w.setCell ⟨g, 0, none⟩ (.bool (s || o))) (some g)) := Lib.hid ⟨rfl, rfl, rfl, by simp, fun k hk hne => Below.heap_setCell w _ _ k (fun e => hne (by rw [e]))⟩
 clear R
 cases s
 all_goals
  go_enter Try.func34, Try.ntmps34
  go_wp2
  go_ret
  exact ⟨rfl, by simpa using HR.out, by simpa using HG.out⟩
theorem QL (w : World) (g j : Nat) (u : Value) : w.grownBy (w.setCell ⟨g, j, none⟩ u) (some g) := ⟨rfl, rfl, rfl, by simp, fun k hk hne => Below.heap_setCell w _ _ k (fun e => hne (by rw [e]))⟩
theorem QZ (g : Nat) (s u : Bool) (X : Array Value) (w : World) (R : Row w g 77 #[.bool s]) (W : World) (hW : W = ((w.setCell ⟨g, 0, none⟩ (.bool u)).alloc (.cells X 26)).alloc (.cells X 26)) :
 Row W (w.heap.size + 1) 26 X ∧ Row W g 77 #[.bool u] ∧ w.grownBy W (some g) := by
 subst hW
 refine ⟨?_, ?_, ?_⟩
 · have := Row.new ((w.setCell ⟨g, 0, none⟩ (.bool u)).alloc (.cells X 26)) 26 X
   simpa using this
 · exact ((R.set 0 (.bool u)).alloc _).alloc _
 · exact yC (QL w g 0 _) (KK.nV (((Below.refl _ _).alloc (Nat.le_refl _) _).alloc (by simp) _) _)
theorem xJ (g : Nat) (s o : Bool) (a b c : Int) (A : Option Addr) (n cp : Nat) (w : World) (R : Row w g 77 #[.bool s]) :
 Calls Try.prog 45 #[.pointer (some ⟨g, 0, none⟩), .agg #[I a, I b, .slice A n cp], .bool o, I c] w fun e w' => e = .returned (.agg #[I a, I b, .slice A n cp]) ∧ Row w' g 77 #[.bool (s || o)] ∧ w.grownBy w' (some g) := by
 have hg := R.lt
 have E := Lib.hid (fun u W h => QZ g s u #[I a, I b, .slice A n cp] w R W h)
 have x := R.cell
 have f := R.free
 clear R
 cases s
 all_goals
  go_enter Try.func45, Try.ntmps45
  go_wp2
  first
   | exact bodyPost_ret (Vg rfl rfl (E.out o _ rfl).1) rfl ⟨rfl, (E.out o _ rfl).2.1, (E.out o _ rfl).2.2⟩
   | exact bodyPost_ret (Vg rfl rfl (E.out true _ rfl).1) rfl ⟨rfl, (E.out true _ rfl).2.1, (E.out true _ rfl).2.2⟩
end Go.Proofs.Ytninmcmajbfccaa.PR

namespace Go.Proofs.Ytninmcmajbfccaa.PR
open Go.RowKit Go.Proofs.Ytninmcmajbfccaa.PQ Go.Proofs.aH.bK Go.Proofs.aH.dG Go.Proofs.aH.dJ Go.Proofs.Ytninmcmajbfccaa.KK
set_option linter.unusedVariables false
set_option linter.unusedSimpArgs false
theorem Kv {w0 w : World} {g : Nat} {s : Bool} (h : bn w0 w g s) : Row w g 77 #[.bool s] := h.1
theorem grown_of {w0 w w' : World} {g : Nat} (hB : Below w0.heap.size w0 w) (hB' : Below w0.heap.size w0 w') (hk : dW w w' g none) : w.grownBy w' (some g) :=
 ⟨hB'.os.trans hB.os.symm, hB'.tape.trans hB.tape.symm, hB'.output.trans hB.output.symm, hk.1, fun k hk' hne => hk.2 k hk' (fun e => hne (by rw [e])) (by simp)⟩
theorem Gx {w0 w w' : World} {g : Nat} (hB : Below w0.heap.size w0 w) (hg : w0.heap.size ≤ g) (h : w.grownBy w' (some g)) : Below w0.heap.size w0 w' :=
 ⟨h.os.trans hB.os, h.tape.trans hB.tape, h.output.trans hB.output, Nat.le_trans hB.size h.size, fun k hk => (h.block k (Nat.lt_of_lt_of_le hk hB.size) (fun e => by injection e with e; omega)).trans (hB.block k hk)⟩
theorem Vq {w w' : World} {g : Nat} (h : w.grownBy w' (some g)) : dW w w' g none := ⟨h.size, fun k hk hne _ => h.block k hk (fun e => hne (by injection e))⟩
theorem Ih (w0 w : World) (g : Nat) (s : Bool) (dS dZ : Int) (A1 : Option Addr) (c1 : Nat) (l1 : List Int) (qp qo : Int) (A2 : Option Addr) (c2 : Nat) (l2 : List Int) (r1 r2 : Int) (r3 : List Int) (r4 : Bool)
 (R : Row w g 77 #[.bool s]) (hg : w0.heap.size ≤ g) (hB : Below w0.heap.size w0 w) (h1 : Rd w A1 l1) (hc1 : l1.length ≤ c1) (hf1 : ∀ ad, A1 = some ad → 0 < l1.length → ad.block ≠ g) (h2 : Rd w A2 l2) (hc2 : l2.length ≤ c2) (hf2 : ∀ ad, A2 = some ad → 0 < l2.length → ad.block ≠ g)
 (h : fA.f s dS dZ l1 qp qo l2 = some (r1, r2, r3, r4)) :
 Calls Try.prog 48 #[.pointer (some ⟨g, 0, none⟩), .agg #[I dS, I dZ, .slice A1 l1.length c1], .agg #[I qp, I qo, .slice A2 l2.length c2]] w fun e w' => ∃ A c, e = .returned (.agg #[I r1, I r2, .slice A r3.length c]) ∧ Own w' w.heap.size (.slice A r3.length c) r3 ∧ Row w' g 77 #[.bool r4] ∧ w.grownBy w' (some g) := by
 refine (fA.calls g s dS dZ A1 c1 l1 qp qo A2 c2 l2 r1 r2 r3 r4 w0 w ⟨R, hg⟩ hB h1 hc1 hf1 h2 hc2 hf2 h).mono ?_
 rintro e w' ⟨v, rfl, ho, hI, hb, hk⟩
 obtain ⟨A, c, rfl, _, _⟩ := Own.reads ho
 exact ⟨A, c, rfl, ho, hI.1, grown_of hB hb hk⟩
theorem Own.first {w : World} {base : Nat} {A : Option Addr} {c : Nat} {l : List Int} (h : Own w base (.slice A l.length c) l) (hp : 0 < l.length) : ∃ b off, A = some ⟨b, off, none⟩ ∧ w.cell? ⟨b, off, none⟩ = some (I (l.getD 0 0)) ∧ base ≤ b := by
 obtain ⟨A', c', he, _, hr⟩ := Own.reads h
 injection he with e1 _ _
 subst e1
 obtain ⟨b, off, rfl, _, hc⟩ := hr.cells hp
 refine ⟨b, off, rfl, ?_, ?_⟩
 · have := hc 0 _ (xy hp)
   simpa using this
 · exact (h.row.lt b rfl).1
theorem Zn (a b : Int) (A : Option Addr) (n c : Nat) (w : World) : (Instr.field 26 (.agg #[.int .i64 a, .int .i64 b, .slice A n c]) 2).run Try.prog w = .ok (.slice A n c) w := by
 have hu := Try.underlying26
 have hk : Try.prog.cellsOf 24 = 1 := by kernel_rfl
 simp [Instr.field, go_sem, hu, hk, asAgg]
def kE.f (qX : Bool) (dS : Int) (dZ : Int) (dI : List Int) (mO : Int) (mM : Int) (kJ : List Int) (qp : Int) (qo : Int) (oK : List Int) (a3 : Int) (a4 : Int) : Option (Int × Int × Bool) :=
 (lU.f qp qo oK dS dZ dI).bind fun m => if 0 < m.2.2.1.length then
   ((fA.f (qX || m.2.2.2.1 || (sJ a3 (m.2.2.1.getD 0 0)).2) qp qo oK mO mM kJ).bind fun b => if 0 < b.2.2.1.length then some ((sJ a3 (m.2.2.1.getD 0 0)).1, (oC (b.2.2.1.getD 0 0) a4).1, b.2.2.2 || (oC (b.2.2.1.getD 0 0) a4).2) else none) else none
theorem kE.calls (g : Nat) (qX : Bool) (dS : Int) (dZ : Int) (gY : Option Addr) (g_ : Nat) (dI : List Int) (mO : Int) (mM : Int) (qO : Option Addr) (qP : Nat) (kJ : List Int) (qp : Int) (qo : Int) (wG : Option Addr) (xE : Nat) (oK : List Int) (a3 : Int) (a4 : Int) (r1 : Int) (r2 : Int) (r3 : Bool) (w0 w : World) (hI : bn w0 w g qX) (hB : Below w0.heap.size w0 w)
 (oM : Kd.C (Kd.int .i64) w gY dI.length dI) (o9 : dI.length ≤ g_) (Lp : ∀ ad, gY = some ad → 0 < dI.length → ad.block ≠ g) (DF : Kd.C (Kd.int .i64) w qO kJ.length kJ) (DI : kJ.length ≤ qP) (TK : ∀ ad, qO = some ad → 0 < kJ.length → ad.block ≠ g) (Lc : Kd.C (Kd.int .i64) w wG oK.length oK) (Lr : oK.length ≤ xE) (Lm : ∀ ad, wG = some ad → 0 < oK.length → ad.block ≠ g)
 (h : kE.f qX dS dZ dI mO mM kJ qp qo oK a3 a4 = some (r1, r2, r3)) :
 Calls Try.prog 33 #[.pointer (some ⟨g, 0, none⟩), .agg #[.int .i64 dS, .int .i64 dZ, .slice gY dI.length g_, .int .i64 mO, .int .i64 mM, .slice qO kJ.length qP], .agg #[.int .i64 qp, .int .i64 qo, .slice wG oK.length xE], .int .i64 a3, .int .i64 a4] w fun e w' => e = .returned (.tuple #[.int .i64 r1, .int .i64 r2]) ∧ bn w0 w' g r3 ∧ Below w0.heap.size w0 w' ∧ dW w w' g none := by
 unfold kE.f at h
 obtain ⟨⟨m1, m2, lm, fm, em⟩, hm, h⟩ := Option.bind_eq_some_iff.1 h
 dsimp only at h
 split at h
 case isFalse => cases h
 rename_i hp
 obtain ⟨⟨b1, b2, lb, fb⟩, hbt, h⟩ := Option.bind_eq_some_iff.1 h
 dsimp only at h
 split at h
 case isFalse => cases h
 rename_i hp2
 simp only [Option.some.injEq, Prod.mk.injEq] at h
 obtain ⟨rfl, rfl, rfl⟩ := h
 have hgl := (Kv hI).lt
 have N : Hid (Sg w g [(28, #[I dS, I dZ, .slice gY dI.length g_, I mO, I mM, .slice qO kJ.length qP]), (26, #[I qp, I qo, .slice wG oK.length xE])] ((w.alloc (.cells #[I dS, I dZ, .slice gY dI.length g_, I mO, I mM, .slice qO kJ.length qP] 28)).alloc (.cells #[I qp, I qo, .slice wG oK.length xE] 26))) := Lib.hid (Sg.of (((fF.none w).push (by simp) _ _).push (by simp) _ _))
 have R := Lib.hid (((Kv hI).alloc (.cells #[I dS, I dZ, .slice gY dI.length g_, I mO, I mM, .slice qO kJ.length qP] 28)).alloc (.cells #[I qp, I qo, .slice wG oK.length xE] 26))
 have HG := Lib.hid hI.2
 have HB := Lib.hid hB
 have C1 := Lib.hid o9
 have C5 := Lib.hid DI
 have C2 := Lib.hid Lr
 have T1 := Lib.hid (fun w' (h : w.grownBy w' (some g)) => Rd.touch oM h Lp)
 have T5 := Lib.hid (fun w' (h : w.grownBy w' (some g)) => Rd.touch DF h TK)
 have T2 := Lib.hid (fun w' (h : w.grownBy w' (some g)) => Rd.touch Lc h Lm)
 have F2 := Lib.hid Lm
 have F5 := Lib.hid TK
 have HM := Lib.hid hm
 have HBT := Lib.hid hbt
 have P1 := Lib.hid hp
 have P2 := Lib.hid hp2
 have GL := Lib.hid hgl
 clear hI hB oM o9 Lp DF DI TK Lc Lr Lm hm hbt hp hp2 hgl
 obtain ⟨z, hz⟩ : ∃ z, sJ a3 (lm.getD 0 0) = z := ⟨_, rfl⟩
 obtain ⟨y, hy⟩ : ∃ y, oC (lb.getD 0 0) a4 = y := ⟨_, rfl⟩
 rw [hz] at HBT ⊢
 rw [hy]
 have HZ := Lib.hid hz
 have HY := Lib.hid hy
 clear hz hy
 obtain ⟨z1, z2⟩ := z
 obtain ⟨y1, y2⟩ := y
 dsimp only at HBT ⊢
 have hmf := KK.hmf
 have hfd := Zn
 go_enter Try.func33, Try.ntmps33
 go_wp2_with fail
 refine (lU.calls qp qo wG xE oK dS dZ gY g_ dI m1 m2 lm fm em _ (T2.out _ N.out.gr) C2.out (T1.out _ N.out.gr) C1.out HM.out).mono ?_
 rintro e w2 ⟨v, rfl, ho, hb⟩
 obtain ⟨Am, cm, rfl, _, _⟩ := Own.reads ho
 have O := Lib.hid ho
 have N2 := Lib.hid (N.out.below hb)
 have R2 := Lib.hid (R.out.below hb R.out.lt)
 clear ho hb
 go_wp2_with fail
 refine (xJ g qX fm m1 m2 em Am lm.length cm w2 R2.out).mono ?_
 rintro e w3 ⟨rfl, hr3, hg3⟩
 have O3 := Lib.hid (Own.touch O.out hg3 (by have := GL.out; simp; omega))
 have N3 := Lib.hid (N2.out.touch hg3 GL.out)
 have R3 := Lib.hid hr3
 clear hr3 hg3
 obtain ⟨bm, om, rfl, x, _⟩ := Own.first O3.out P1.out
 have hlm : (0 : Int) < lm.length := by have := P1.out; omega
 go_wp2_with fail
 refine (Hq a3 (lm.getD 0 0) w3).mono ?_
 rw [HZ.out]
 rintro e w4 ⟨rfl, hb⟩
 have N4 := Lib.hid (N3.out.below hb)
 have R4 := Lib.hid (R3.out.below hb R3.out.lt)
 clear hb x
 go_wp2_with fail
 refine (KF g (qX || fm) z2 z1 w4 R4.out).mono ?_
 rintro e w5 ⟨rfl, hr5, hg5⟩
 have N5 := Lib.hid (N4.out.touch hg5 GL.out)
 have R5 := Lib.hid hr5
 clear hr5 hg5
 have x0 := N5.out.r0.cell
 have x1 := N5.out.r1.cell
 go_wp2_with fail
 refine (Ih w0 w5 g _ qp qo wG xE oK mO mM qO qP kJ b1 b2 lb fb R5.out HG.out (Gx HB.out HG.out N5.out.gr) (T2.out _ N5.out.gr) C2.out F2.out (T5.out _ N5.out.gr) C5.out F5.out HBT.out).mono ?_
 rintro e w6 ⟨Ab, cb, rfl, ho, hr6, hg6⟩
 have N6 := Lib.hid (N5.out.touch hg6 GL.out)
 have R6 := Lib.hid hr6
 obtain ⟨bb, ob, rfl, x, _⟩ := Own.first ho P2.out
 have hlb : (0 : Int) < lb.length := by have := P2.out; omega
 clear hr6 hg6 ho x0 x1 hlm
 go_wp2_with fail
 refine (C_ (lb.getD 0 0) a4 w6).mono ?_
 rw [HY.out]
 rintro e w7 ⟨rfl, hb⟩
 have N7 := Lib.hid (N6.out.below hb)
 have R7 := Lib.hid (R6.out.below hb R6.out.lt)
 clear hb x
 go_wp2_with fail
 refine (KF g fb y2 y1 w7 R7.out).mono ?_
 rintro e w8 ⟨rfl, hr8, hg8⟩
 have N8 := Lib.hid (N7.out.touch hg8 GL.out)
 have R8 := Lib.hid hr8
 clear hr8 hg8
 go_wp2
 go_ret2
 exact ⟨rfl, ⟨R8.out, HG.out⟩, Gx HB.out HG.out N8.out.gr, Vq N8.out.gr⟩
end Go.Proofs.Ytninmcmajbfccaa.PR

namespace Go.Proofs.Ytninmcmajbfccaa.PR
open Go.RowKit Go.Proofs.Ytninmcmajbfccaa.PQ Go.Proofs.aH.bK Go.Proofs.aH.dG Go.Proofs.aH.dJ Go.Proofs.Ytninmcmajbfccaa.KK
set_option linter.unusedVariables false
set_option linter.unusedSimpArgs false
theorem Rw (a b : Int) (w : World) : Calls Try.prog 67 #[I a, I b] w fun e w' => e = .returned (.tuple #[I (H9 a b).1, .bool (H9 a b).2]) ∧ Below w.heap.size w w' := by
 obtain ⟨k, hk⟩ := abw a b
 exact rQ.calls k a b _ _ w (hk k (Nat.le_refl _))
def wB (n : Nat) (L : List Int) : Nat → List Int
 | 0 => L
 | j + 1 => (wB n L j).set (j * n + j) (mx (rd (wB n L j) (((j * n + j : Nat)) : Int)) 0)
def DK (n : Nat) (l : List Int) : List Int := wB n (DL n l) n
theorem He (n : Nat) (L : List Int) (j : Nat) : (wB n L j).length = L.length := by
 induction j with
 | zero => rfl
 | succ j ih => simp only [wB, List.length_set, ih]
theorem JH (n : Nat) (l : List Int) : (DL n l).length = n * n := upto_length
theorem Ri (n : Nat) (L : List Int) (hn : n ≤ 8) (hL : L.length = n * n) : ∀ (d j : Nat), j + d = n → fH.l0 (d + 1) n j n n (wB n L j) = some ((n : Int), (n : Int), wB n L n) := by
 intro d
 induction d with
 | zero =>
   intro j hj
   obtain rfl : j = n := by omega
   unfold fH.l0
   rw [if_neg (by omega)]
 | succ d ih =>
   intro j hj
   have hlt := kH (r := n) (c := n) (i := j) (k := j) (by omega) (by omega)
   have hle : n * n ≤ 8 * 8 := Nat.mul_le_mul hn hn
   have e1 : (j : Int) * (n : Int) = ((j * n : Nat) : Int) := by push_cast; rfl
   have e2 : wrap64 ((j : Int) * (n : Int)) = ((j * n : Nat) : Int) := by rw [e1]; exact zZ (by omega) (by omega)
   have e3 : wrap64 (((j * n : Nat) : Int) + (j : Int)) = ((j * n + j : Nat) : Int) := by rw [zZ (by omega) (by omega)]; push_cast; rfl
   have e4 : wrap64 ((j : Int) + 1) = ((j + 1 : Nat) : Int) := by rw [zZ (by omega) (by omega)]; push_cast; rfl
   unfold fH.l0
   rw [if_pos (by omega), e2, e3, if_pos (by omega), if_pos (by rw [He, hL]; omega), e4, Int.toNat_natCast]
   exact ih (j + 1) (by omega)
theorem Rh (n : Nat) (l : List Int) (hn : n ≤ 8) (hl : l.length = n * n) : fH.f (n + 1) n n l = some ((n : Int), (n : Int), DK n l) := by
 have e1 : (l.length : Int) = (n : Int) * (n : Int) := by rw [hl]; push_cast; rfl
 unfold fH.f uF.f
 rw [if_pos ⟨rfl, by omega, by omega, by omega, by omega, e1⟩]
 simp only [Option.bind_some, Int.toNat_natCast]
 exact Ri n (DL n l) hn (JH n l) n 0 (by omega)
theorem F8 (n : Nat) (A : Option Addr) (c : Nat) (l : List Int) (w : World) (hn : n ≤ 8) (hl : l.length = n * n) (hA : Rd w A l) (hc : l.length ≤ c) :
 Calls Try.prog 15 #[.agg #[I n, I n, .slice A l.length c]] w fun e w' => ∃ A2 c2, e = .returned (.agg #[I n, I n, .slice A2 (DK n l).length c2]) ∧ Own w' w.heap.size (.slice A2 (DK n l).length c2) (DK n l) ∧ Below w.heap.size w w' := by
 refine (fH.calls (n + 1) n n A c l _ _ _ w hA hc (Rh n l hn hl)).mono ?_
 rintro e w' ⟨v, rfl, ho, hb⟩
 obtain ⟨A2, c2, rfl, _, _⟩ := Own.reads ho
 exact ⟨A2, c2, rfl, ho, hb⟩
def rZ (r n : Nat) (a p : List Int) : List Int := mulL r n r (mulL r n n a p) (AY r n a)
def yK (r n : Nat) (a p : List Int) : Bool := Ad r n n a p || Ad r n r (mulL r n n a p) (AY r n a)
theorem yu (r c1 c2 : Nat) (l m : List Int) : (mulL r c1 c2 l m).length = r * c2 := upto_length
theorem shape {r c : Nat} {l : List Int} (hr : r ≤ 8) (hc : c ≤ 8) (hl : l.length = r * c) : 0 ≤ (r : Int) ∧ (r : Int) ≤ 8 ∧ 0 ≤ (c : Int) ∧ (c : Int) ≤ 8 ∧ (l.length : Int) = (r : Int) * (c : Int) :=
 ⟨by omega, by omega, by omega, by omega, by rw [hl]; push_cast; rfl⟩
theorem KJ {r c1 c2 : Nat} {l m : List Int} (hr : r ≤ 8) (h1 : c1 ≤ 8) (h2 : c2 ≤ 8) (hl : l.length = r * c1) (hm : m.length = c1 * c2) : lU.f r c1 l c1 c2 m = some ((r : Int), (c2 : Int), mulL r c1 c2 l m, Ad r c1 c2 l m, 0) := by
 unfold lU.f
 rw [if_pos rfl, if_pos ⟨shape hr h1 hl, shape h1 h2 hm⟩]
 simp only [Int.toNat_natCast]
theorem MS {r c : Nat} {l : List Int} (hr : r ≤ 8) (hc : c ≤ 8) (hl : l.length = r * c) : jy.f r c l = some ((c : Int), (r : Int), AY r c l) := by
 unfold jy.f
 rw [if_pos (shape hr hc hl)]
 simp only [Int.toNat_natCast]
theorem I4 (s : Bool) (a b : Int) (l : List Int) (o : Bool) (e : Int) : gq.f s a b l o e = some (a, b, l, s || o) := by
 unfold gq.f
 cases s <;> simp
theorem JR (s : Bool) (r n : Nat) (a p : List Int) (hr : r ≤ 8) (hn : n ≤ 8) (ha : a.length = r * n) (hp : p.length = n * n) :
 fA.f s r n a n n p = some ((r : Int), (r : Int), rZ r n a p, s || yK r n a p) := by
 unfold fA.f
 simp only [KJ hr hn hn ha hp, Option.bind_some, I4, MS hr hn ha, KJ hr hn hr (yu _ _ _ _ _) (z_ r n a)]
 simp [rZ, yK, Bool.or_assoc]
theorem wz {w w' : World} {r : Option Nat} (h : w.grownBy w' r) {p : Addr} (hp : w.heap.size ≤ p.block) (u : Value) : w.grownBy (w'.setCell p u) r :=
 ⟨h.os, h.tape, h.output, by simpa using h.size, fun k hk hne => (Below.heap_setCell w' p u k (by omega)).trans (h.block k hk hne)⟩
theorem Lu {w w' : World} {r : Option Nat} (h : w.grownBy w' r) {C : Nat} (hp : w.heap.size ≤ C) (a b c : Value) : w.grownBy (gy w' C a b c) r :=
 wz (wz (wz h (p := ⟨C, 0, none⟩) hp a) (p := ⟨C, 1, none⟩) hp b) (p := ⟨C, 2, none⟩) hp c
theorem AZ (g kb pb n : Nat) (s : Bool) (A : Option Addr) (cp : Nat) (k : List Int) (q : Int) (w : World) (hn : n ≤ 8) (hk : k.length = n * 1) (hA : Rd w A k) (hcp : k.length ≤ cp)
 (Rk : Row w kb 26 #[I n, I 1, .slice A k.length cp]) (Rp : Row w pb 75 #[.pointer (some ⟨g, 0, none⟩)]) (R : Row w g 77 #[.bool s]) :
 Calls Try.prog 68 #[I q, .pointer (some ⟨kb, 0, none⟩), .pointer (some ⟨pb, 0, none⟩)] w fun e w' => ∃ A2 c2, e = .returned (.agg #[I n, I 1, .slice A2 (oW n 1 k q).length c2]) ∧ Own w' w.heap.size (.slice A2 (oW n 1 k q).length c2) (oW n 1 k q) ∧ Row w' g 77 #[.bool (s || scaleB n 1 k q)] ∧ w.grownBy w' (some g) := by
 have hgl := R.lt
 have N : Hid (Sg w g [(26, #[I 0, I 0, .slice none 0 0])] (w.alloc (.cells #[I 0, I 0, .slice none 0 0] 26))) := Lib.hid (Sg.of ((fF.none w).push (by simp) _ _))
 have HS := Lib.hid (QY n 1 A cp k q _ hn (by omega) hk (hA.below ((Below.refl _ _).alloc (Nat.le_refl _) (.cells #[I 0, I 0, .slice none 0 0] 26))) hcp)
 have x0 := (Rk.alloc (.cells #[I 0, I 0, .slice none 0 0] 26)).cell
 have RP := Lib.hid (Rp.alloc (.cells #[I 0, I 0, .slice none 0 0] 26))
 have RG := Lib.hid (R.alloc (.cells #[I 0, I 0, .slice none 0 0] 26))
 have GL := Lib.hid hgl
 obtain ⟨L, hL⟩ : ∃ L, oW n 1 k q = L := ⟨_, rfl⟩
 obtain ⟨b, hb⟩ : ∃ b, scaleB n 1 k q = b := ⟨_, rfl⟩
 rw [hL, hb] at HS ⊢
 clear hn hk hA hcp Rk Rp R hgl hL hb
 go_enter Try.func68, Try.ntmps68
 go_wp2_with fail
 refine HS.out.mono ?_
 rintro e w2 ⟨v, rfl, ho, hb⟩
 obtain ⟨A2, c2, rfl, _, _⟩ := Own.reads ho
 have O := Lib.hid ho
 have N2 := Lib.hid ((N.out.below hb).alloc (.cells #[I n, I 1, .slice A2 L.length c2] 26))
 have RP2 := Lib.hid (RP.out.below hb RP.out.lt)
 have RG2 := Lib.hid ((RG.out.below hb RG.out.lt).alloc (.cells #[I n, I 1, .slice A2 L.length c2] 26))
 clear ho hb x0
 have x1 := RP2.out.cell
 have x2 := RP2.out.lt
 go_wp2_with fail
 refine (xJ g s b n 1 0 A2 L.length c2 _ RG2.out).mono ?_
 rintro e w3 ⟨rfl, hr3, hg3⟩
 have O3 := Lib.hid (Own.touch (O.out.alloc _) hg3 (by have := GL.out; simp; omega))
 have N3 := Lib.hid (N2.out.touch hg3 GL.out)
 have R3 := Lib.hid hr3
 clear hr3 hg3 x1 x2
 have x1 := N3.out.r0.cell
 have g1 := N3.out.r0.free
 go_wp2
 refine bodyPost_ret (Vg rfl rfl (N3.out.r0.gy _ _ _)) rfl ⟨_, _, rfl, ?_, R3.out.CU (by have := GL.out; omega), Lu N3.out.gr (Nat.le_refl _) _ _ _⟩
 exact (O3.out.gy (by simp) _ _ _).lower (by simp)
end Go.Proofs.Ytninmcmajbfccaa.PR

namespace Go.Proofs.Ytninmcmajbfccaa.KK
open Go.RowKit
set_option linter.unusedVariables false
set_option linter.unusedSimpArgs false
section
variable {P : Program} {md : Region.Mode} {ops : Array Oper} {Q : Exit → Act → World → Prop} {S : World → Prop} {m : Nat}
def Until (P : Program) (md : Region.Mode) (ops : Array Oper) (Q : Exit → Act → World → Prop) (S : World → Prop) (m : Nat) : Nat → Array Bool → Act → World → Prop
 | 0, L, a, w => Region.ready md ops L = [] ∧ Q .normal a w
 | f + 1, L, a, w => (Region.ready md ops L = [] → Q .normal a w) ∧
     ∀ i ∈ Region.ready md ops L, wpOp P ops Q i (fun a' w' => ((L.setIfInBounds i true).getD m true = false → S w') ∧ Until P md ops Q S m f (L.setIfInBounds i true) a' w') a w
theorem Until.any : ∀ (f : Nat) (L : Array Bool) (a : Act) (w : World), Until P md ops Q S m f L a w → wpAny P md ops Q f L a w
 | 0, _, _, _, h => h
 | f + 1, _, _, _, h => ⟨h.1, fun i hi => wpOp_mono (fun a' w' h' => Until.any f _ a' w' h'.2) (h.2 i hi)⟩
def waits (md : Region.Mode) (ops : Array Oper) (m i : Nat) : Bool := match ops[m]? with | some o => o.after.any fun e => Region.binds md e && e.on == i | none => false
theorem MO {i : Nat} (h : waits md ops m i = true) : ∃ o e, ops[m]? = some o ∧ e ∈ o.after ∧ Region.binds md e = true ∧ e.on = i := by
 unfold waits at h
 cases ho : ops[m]? with
 | none => rw [ho] at h; cases h
 | some o =>
   rw [ho] at h
   simp only [Array.any_eq_true'] at h
   obtain ⟨e, he, hb⟩ := h
   simp only [Bool.and_eq_true, beq_iff_eq] at hb
   exact ⟨o, e, rfl, he, hb.1, hb.2⟩
theorem Dy {i j : Nat} {L : Array Bool} (hi : i ∈ Region.ready md ops L) (hj : j ∈ Region.ready md ops L) : ∃ o, ops[j]? = some o ∧ ∀ e ∈ o.after, Region.binds md e = true → e.on ≠ i := by
 obtain ⟨_, o, ho, hall⟩ := mem_ready.1 hj
 refine ⟨o, ho, fun e he hb heq => ?_⟩
 have h1 := hall e he hb
 have h0 := (mem_ready.1 hi).1
 rw [heq] at h1
 by_cases hs : i < L.size
 · rw [Array.getD_eq_getD_getElem?, Array.getElem?_eq_getElem hs] at h0 h1
   simp at h0 h1
   rw [h0] at h1
   cases h1
 · rw [Array.getD_eq_getD_getElem?, Array.getElem?_eq_none (by omega)] at h1
   simp at h1
theorem Until.first {i : Nat} {oi : Oper} {v : Value} (hi : ops[i]? = some oi) (hs : Region.noSelect ops = true) (hQ : ∀ c a w, Q (.panic c) (a.put oi.dst v) w → Q (.panic c) a w) (hm : waits md ops m i = true) :
 ∀ (f : Nat) (L : Array Bool) (a : Act) (w : World),
   (∀ j oj, ops[j]? = some oj → j ≠ i → L.getD j true = false → (∀ e ∈ oj.after, Region.binds md e = true → e.on ≠ i) → oi.apart ops oj = true) →
   i ∈ Region.ready md ops L → L.getD m true = false → YieldsIf P ops S oi v a → S w →
   Until P md ops Q S m f (L.setIfInBounds i true) (a.put oi.dst v) w → Until P md ops Q S m (f + 1) L a w := by
 obtain ⟨om, em, hom, hem, hbm, aaS⟩ := MO hm
 intro f
 induction f with
 | zero =>
   intro L a w hf hr hu hy hS H
   refine ⟨fun h => (by rw [h] at hr; cases hr), fun j hj => ?_⟩
   by_cases hji : j = i
   · subst hji; exact hy.wpOp hi hS ⟨fun _ => hS, H⟩
   · have h := ready_mono hj hji
     rw [H.1] at h
     cases h
 | succ f ih =>
   intro L a w hf hr hu hy hS H
   refine ⟨fun h => (by rw [h] at hr; cases hr), fun j hj => ?_⟩
   by_cases hji : j = i
   · subst hji; exact hy.wpOp hi hS ⟨fun _ => hS, H⟩
   · obtain ⟨oj, hoj, hno⟩ := Dy hr hj
     have hjm : j ≠ m := fun e => by
      subst e
      rw [hom] at hoj
      injection hoj with hoj
      subst hoj
      exact hno em hem hbm aaS
     have him : i ≠ m := fun e => by
      subst e
      obtain ⟨o', ho', hn'⟩ := Dy hr hr
      rw [hom] at ho'
      injection ho' with ho'
      subst ho'
      exact hn' em hem hbm aaS
     have hun := (mem_ready.1 hj).1
     have h2 := wpOp_putIf hoj (hf j oj hoj hji hun hno) (fun cs b => Region.noSelect_spec hs i oi cs b hi) (fun cs b => Region.noSelect_spec hs j oj cs b hoj) hQ hy (H.2 j (ready_mono hj hji))
     refine wpOp_mono (fun a' w' h3 => ?_) h2
     obtain ⟨hy', hS', H'⟩ := h3
     have hu' : (L.setIfInBounds j true).getD m true = false := by rw [getD_set_ne true hjm]; exact hu
     have hSw : S w' := hS' (by rw [getD_set_ne true hjm, getD_set_ne true him]; exact hu)
     refine ⟨fun _ => hSw, ih _ a' w' ?_ (ready_mono hr (Ne.symm hji)) hu' hy' hSw ?_⟩
     · intro k ok hk hki hku hkn
       refine hf k ok hk hki ?_ hkn
       by_cases hjk : j = k
       · subst hjk; exact hun
       · rw [getD_set_ne true hjk] at hku; exact hku
     · rw [Array.setIfInBounds_comm _ _ hji]
       exact H'
theorem Until.take {i : Nat} {oi : Oper} {v : Value} {f : Nat} {L : Array Bool} {a : Act} {w : World} (hi : ops[i]? = some oi)
 (hs : Region.noSelect ops = true) (hf : Region.free md ops L i = true) (hr : (Region.ready md ops L).contains i = true) (hm : waits md ops m i = true) (hu : L.getD m true = false)
 (hQ : ∀ c a w, Q (.panic c) (a.put oi.dst v) w → Q (.panic c) a w) (hy : YieldsIf P ops S oi v a) (hS : S w)
 (h : Until P md ops Q S m f (L.setIfInBounds i true) (a.put oi.dst v) w) : Until P md ops Q S m (f + 1) L a w :=
 Until.first hi hs hQ hm f L a w (Region.free_spec hi hf) (by simpa using hr) hu hy hS h
theorem Until.one {i : Nat} {o : Oper} {f : Nat} {L : Array Bool} {a : Act} {w : World} (hr : Region.ready md ops L = [i]) (ho : ops[i]? = some o)
 (h : ∀ K' : Act → World → Prop, Shut (∀ a w, ((L.setIfInBounds i true).getD m true = false → S w) → Until P md ops Q S m f (L.setIfInBounds i true) a w → K' a w) → if Region.wanted o (yielded ops a.tmps) = true then Oper.wp P o a w K' Q else K' (a.put o.dst undef) w) :
 Until P md ops Q S m (f + 1) L a w := by
 refine ⟨fun h0 => (by rw [hr] at h0; cases h0), fun j hj => ?_⟩
 rw [hr] at hj
 obtain rfl := List.mem_singleton.1 hj
 have h1 := h (fun a' w' => ((L.setIfInBounds j true).getD m true = false → S w') ∧ Until P md ops Q S m f (L.setIfInBounds j true) a' w') (fun a w hS hU => ⟨hS, hU⟩)
 unfold wpOp
 simp only [ho]
 split
 · rename_i hw
   rw [if_pos hw] at h1
   exact .inl h1
 · rename_i hw
   rw [if_neg hw] at h1
   exact h1
theorem Until.done {L : Array Bool} {a : Act} {w : World} (hr : Region.ready md ops L = []) (h : Q .normal a w) : ∀ f, Until P md ops Q S m f L a w
 | 0 => ⟨hr, h⟩
 | _ + 1 => ⟨fun _ => h, by rw [hr]; simp⟩
theorem I_ {id : Nat} {a : Act} {w : World} (S : World → Prop) (m : Nat) (hm : P.follows .mixedOrders = true) (hS : S w.drew) (h : S w.drew → Until P .any ops (NoPanic Q) S m ops.size (Array.replicate ops.size false) a w.drew) : (Code.region id ops true).wp P Q a w :=
 wp_region_noPanic (wp_region_any hm (Until.any _ _ _ _ (h hS)))
end
end Go.Proofs.Ytninmcmajbfccaa.KK

