import Derived.Test.YtcfobekkchhbbaaGreatX6
/- Joined and thinned by a program of this session's own (wip/pack2.py) out of its texts (wip/ of its repo); parts were laid by its own program (wip/print-patch.py over the kit's print) out of the translation; Lean checks all. -/
set_option maxRecDepth 100000
set_option maxHeartbeats 8000000
namespace Go.Proofs.YtcfobekkchhbbaaGreat.PR
open Go.RowKit Go.Proofs.YtcfobekkchhbbaaGreat.PQ Go.Proofs.af.aK Go.Proofs.af.aV Go.Proofs.af.aW
attribute [local go_sem] iH iF jJ jI gU gK iG iE
set_option linter.unusedVariables false
set_option linter.unusedSimpArgs false
def aI (w0 W : World) (g : Nat) (f0 : Bool) : Prop := W.heap[g]? = some (.cells #[.bool f0] 213 (0, 0)) ∧ w0.heap.size ≤ g
theorem aI.grown {w0 W : World} {g : Nat} {f0 : Bool} {W1 : World} {row : Option Nat} (h : aI w0 W g f0) (hw : W.grownBy W1 row) (hne : some g ≠ row) : aI w0 W1 g f0 := by
 obtain ⟨hb, hg⟩ := h; exact ⟨Rt hb hw hne, hg⟩
theorem aI.below {w0 W : World} {g : Nat} {f0 : Bool} {W1 : World} (h : aI w0 W g f0) (hw : Below W.heap.size W W1) : aI w0 W1 g f0 := h.grown (dJ hw none) (by simp)
theorem aI.alloc {w0 W : World} {g : Nat} {f0 : Bool} (h : aI w0 W g f0) (o : Obj) : aI w0 (W.alloc o) g f0 := h.below (ak (Below.refl _ _) o)
theorem aI.drewN {w0 W : World} {g : Nat} {f0 : Bool} (h : aI w0 W g f0) (m : Nat) : aI w0 (W.drewN m) g f0 := h
theorem aI.drew {w0 W : World} {g : Nat} {f0 : Bool} (h : aI w0 W g f0) : aI w0 W.drew g f0 := h
theorem aI.apart {w0 W : World} {g : Nat} {f0 : Bool} {α : Type} {d : Kd α} {e : Nat} {base : Nat} {ok : Nat → Prop} {v : Value} {xs : List α} (h : aI w0 W g f0) (ho : d.R e W base ok v xs) (ht : ∀ q, q ∈ e :: d.E → q ≠ 213) : d.R e W base (fun k => ok k ∧ k ≠ g) v xs := by
 obtain ⟨hb, hg⟩ := h; exact Kd.xm ho hb ht
theorem aI.lt {w0 W : World} {g : Nat} {f0 : Bool} (h : aI w0 W g f0) : g < W.heap.size := by
 obtain ⟨hb, hg⟩ := h; exact d_ hb
theorem aI.ge {w0 W : World} {g : Nat} {f0 : Bool} (h : aI w0 W g f0) : w0.heap.size ≤ g := by
 obtain ⟨hb, hg⟩ := h; exact hg
theorem aI.far {w0 W : World} {g : Nat} {f0 : Bool} {p : Addr} (h : aI w0 W g f0) (hne : g ≠ p.block) (u : Value) : aI w0 (W.setCell p u) g f0 := by
 obtain ⟨hb, hg⟩ := h; exact ⟨lN hb hne u, hg⟩
theorem EC {W : World} {g : Nat} {f0 : Bool} (h : W.heap[g]? = some (.cells #[.bool f0] 213 (0, 0))) : W.cell? ⟨g, 0, none⟩ = some (.bool f0) := (az h 0).trans rfl
theorem aI.iU {w0 W : World} {g : Nat} {f0 : Bool} (h : aI w0 W g f0) (x : Bool) : aI w0 (W.setCell ⟨g, 0, none⟩ (.bool x)) g x := by
 obtain ⟨hb, hg⟩ := h; exact ⟨by simpa using PN hb 0 (.bool x), hg⟩
def dH.f (nU : Bool) (bH : Int) (bI : Int) (bu : List Int) (a2 : Bool) (a3 : Int) : Option (Int × Int × List Int × Bool) := if nU = true then (some (bH, bI, bu, true)) else (some (bH, bI, bu, a2))
theorem dH.calls (g : Nat) (nU : Bool) (bH : Int) (bI : Int) (sD : Nat → Prop) (LJ : Value) (bu : List Int) (a2 : Bool) (a3 : Int) (r1 : Int) (r2 : Int) (r3 : List Int) (r4 : Bool) (w0 w : World) (hI : aI w0 w g nU) (hB : Below w0.heap.size w0 w) (abN : Kd.R (Kd.int .i64) 22 w w0.heap.size sD LJ bu) (h : dH.f nU bH bI bu a2 a3 = some (r1, r2, r3, r4)) :
 Calls Tryz.prog 151 #[.pointer (some ⟨g, 0, none⟩), .agg #[.int .i64 bH, .int .i64 bI, LJ], .bool a2, .int .i64 a3] w fun e w' => ∃ JB : Value, e = .returned (.agg #[.int .i64 r1, .int .i64 r2, JB]) ∧ Kd.R (Kd.int .i64) 22 w' w0.heap.size (fun k_ => (sD k_ ∨ w.heap.size ≤ k_)) JB r3 ∧ aI w0 w' g r4 ∧ Below w0.heap.size w0 w' ∧ Kept w w' (fun k_ => (sD k_) ∨ k_ = g) := by
 have Ip := Tryz.underlying29; have oN := aj.mk (show Kd.R (Kd.int .i64) 22 w w0.heap.size (fun k_ => (sD k_ ∨ w.heap.size ≤ k_)) LJ bu from Kd.kZ abN (fun k_ hk => (.inl hk))); have HI0 := aj.mk hI; have HL := aj.mk hB.size; clear hI; have HK := aj.mk (Kept.refl w (fun k_ => (sD k_) ∨ k_ = g)); have HW0 := aj.mk hB.size; have HB := aj.mk hB; clear hB; have H : (if nU = true then (some (bH, bI, bu, true)) else (some (bH, bI, bu, a2))) = some (r1, r2, r3, r4) := h; clear h
 by_cases c5 : nU = true
 · subst c5
   rw [if_pos rfl] at H; simp only [Option.some.injEq, Prod.mk.injEq] at H; obtain ⟨rfl, rfl, rfl, rfl⟩ := H; obtain ⟨Ao6, Z8, eo6⟩ := Kd.jV oN.out; subst eo6
   go_enter Tryz.func151, Tryz.ntmps151
   go_wp2_with (first | ((with_reducible refine dG (N := 5) rfl ?_); refine cu ?hg (N := 5) ?hd (cs := #[.int .i64 bH, .int .i64 bI, .slice Ao6 bu.length Z8]) (t := 29) ?hr ?_; (case hd => rfl); (case hg => rfl); (case hr => first | (go_simp; done) | (go_simp; rfl)); intro jO hg w7 hbox hb; have bF := aj.mk (Kd.pG (by (with_reducible repeat (first | apply Kd.gX | apply Kd.gW | apply Kd.iM)); exact oN.out) hb); have dS := aj.mk (aI.below (by repeat (first | (with_reducible first | exact HI0.out | apply aI.alloc | apply aI.drewN | apply aI.drew | apply aI.iU) | exact HI0.out)) hb); have eF := aj.mk (Kept.below (S := (fun k_ => (sD k_) ∨ k_ = g)) (by repeat (first | (with_reducible first | exact HK.out | apply Kept.alloc | apply Kept.drewN | apply Kept.drew | refine Kept.setCell ?_ (.inl (.inr rfl)) _) | exact HK.out)) hb); have fP := aj.mk (aP (by repeat (first | (with_reducible first | exact HB.out | apply ak | apply ah | apply au | refine aA ?_ (aI.ge HI0.out)) | exact HB.out)) hb); have jT := aj.mk (hbox); have ku := aj.mk ((by rw [hg]; exact (by first | exact HK.out.1 | exact (show Kept w _ (fun k_ => (sD k_) ∨ k_ = g) from by repeat (first | (with_reducible first | exact HK.out | apply Kept.alloc | apply Kept.drewN | apply Kept.drew | refine Kept.setCell ?_ (.inl (.inr rfl)) _) | exact HK.out)).1) : w.heap.size ≤ jO)); have kU := aj.mk ((by rw [hg]; exact (bf (by repeat (first | (with_reducible first | exact HB.out | apply ak | apply ah | apply au | refine aA ?_ (aI.ge HI0.out)) | exact HB.out))) : w0.heap.size ≤ jO)); have xH := aj.mk ((by rw [hg]; exact Nat.ne_of_lt (aI.lt (show aI w0 _ g true from by repeat (first | (with_reducible first | exact HI0.out | apply aI.alloc | apply aI.drewN | apply aI.drew | apply aI.iU) | exact HI0.out))) : g ≠ jO)); have AA := aj.mk ((by rw [hg]; exact Nat.ne_of_gt (aI.lt (show aI w0 _ g true from by repeat (first | (with_reducible first | exact HI0.out | apply aI.alloc | apply aI.drewN | apply aI.drew | apply aI.iU) | exact HI0.out))) : jO ≠ g)); clear oN; clear HI0; clear HK; clear HB; have oN := bF; have HI0 := dS; have HK := eF; have HB := fP; have kP := jT; have ET := ku; have EZ := kU; have nM := xH; have Ju := AA; clear bF dS eF fP jT ku kU xH AA; clear hb hbox hg) | ((with_reducible refine dG (N := 8) rfl ?_); refine cu ?hg (N := 8) ?hd (cs := #[.int .i64 0, .int .i64 0, .slice none 0 0]) (t := 29) ?hr ?_; (case hd => rfl); (case hg => rfl); (case hr => first | (go_simp; done) | (go_simp; rfl)); intro jA hg w8 hbox hb; have bF := aj.mk (Kd.pG (by (with_reducible repeat (first | apply Kd.gX | apply Kd.gW | apply Kd.iM)); exact oN.out) hb); have dS := aj.mk (aI.below (by repeat (first | (with_reducible first | exact HI0.out | apply aI.alloc | apply aI.drewN | apply aI.drew | apply aI.iU | refine aI.far ?_ nM.out _) | exact HI0.out)) hb); have eF := aj.mk (bz (g := jO) (o := .cells #[.int .i64 bH, .int .i64 bI, .slice Ao6 bu.length Z8] 29 (0, 0)) (by (with_reducible repeat (first | refine aB ?_ _ | refine aF ?_ | refine aC ?_ _)); exact kP.out) hb); have fP := aj.mk (Kept.below (S := (fun k_ => (sD k_) ∨ k_ = g)) (by repeat (first | (with_reducible first | exact HK.out | apply Kept.alloc | apply Kept.drewN | apply Kept.drew | refine Kept.setCell ?_ (.inl (.inr rfl)) _ | refine Kept.setCell ?_ (.inr ET.out) _) | exact HK.out)) hb); have jT := aj.mk (aP (by repeat (first | (with_reducible first | exact HB.out | apply ak | apply ah | apply au | refine aA ?_ (aI.ge HI0.out) | refine aA ?_ EZ.out) | exact HB.out)) hb); have ku := aj.mk (hbox); have kU := aj.mk ((by rw [hg]; exact (by first | exact HK.out.1 | exact (show Kept w _ (fun k_ => (sD k_) ∨ k_ = g) from by repeat (first | (with_reducible first | exact HK.out | apply Kept.alloc | apply Kept.drewN | apply Kept.drew | refine Kept.setCell ?_ (.inl (.inr rfl)) _ | refine Kept.setCell ?_ (.inr ET.out) _) | exact HK.out)).1) : w.heap.size ≤ jA)); have xH := aj.mk ((by rw [hg]; exact (bf (by repeat (first | (with_reducible first | exact HB.out | apply ak | apply ah | apply au | refine aA ?_ (aI.ge HI0.out) | refine aA ?_ EZ.out) | exact HB.out))) : w0.heap.size ≤ jA)); have AA := aj.mk ((by rw [hg]; exact Nat.ne_of_lt (d_ (g := jO) (o := .cells #[.int .i64 bH, .int .i64 bI, .slice Ao6 bu.length Z8] 29 (0, 0)) (by (with_reducible repeat (first | refine aB ?_ _ | refine aF ?_ | refine aC ?_ _)); exact kP.out)) : jO ≠ jA)); have Pj := aj.mk ((by rw [hg]; exact Nat.ne_of_gt (d_ (g := jO) (o := .cells #[.int .i64 bH, .int .i64 bI, .slice Ao6 bu.length Z8] 29 (0, 0)) (by (with_reducible repeat (first | refine aB ?_ _ | refine aF ?_ | refine aC ?_ _)); exact kP.out)) : jA ≠ jO)); have yN := aj.mk ((by rw [hg]; exact Nat.ne_of_lt (aI.lt (show aI w0 _ g true from by repeat (first | (with_reducible first | exact HI0.out | apply aI.alloc | apply aI.drewN | apply aI.drew | apply aI.iU | refine aI.far ?_ nM.out _) | exact HI0.out))) : g ≠ jA)); have JV := aj.mk ((by rw [hg]; exact Nat.ne_of_gt (aI.lt (show aI w0 _ g true from by repeat (first | (with_reducible first | exact HI0.out | apply aI.alloc | apply aI.drewN | apply aI.drew | apply aI.iU | refine aI.far ?_ nM.out _) | exact HI0.out))) : jA ≠ g)); clear oN; clear HI0; clear kP; clear HK; clear HB; have oN := bF; have HI0 := dS; have kP := eF; have HK := fP; have HB := jT; have oH := ku; have Vr := kU; have Vt := xH; have Ar := AA; have Aj := Pj; have zx := yN; have zo := JV; clear bF dS eF fP jT ku kU xH AA Pj yN JV; clear hb hbox hg; obtain ⟨aaJ, ag3⟩ := HI0.out; have tZ := EC aaJ; have tY := ay aaJ 0; clear aaJ ag3; have abU := Ar.out; have abR := Aj.out; have Yq := Ju.out; have Yo := nM.out; have o9 : w8.cell? ⟨jO, 0, none⟩ = some (.int .i64 bH) := (az kP.out 0).trans rfl; have oZ : w8.cell? ⟨jO, 1, none⟩ = some (.int .i64 bI) := (az kP.out 1).trans rfl; have oW : w8.cell? ⟨jO, 2, none⟩ = some (.slice Ao6 bu.length Z8) := (az kP.out 2).trans rfl; have oV := ay kP.out 0; have oU := ay kP.out 1; have oQ := ay kP.out 2; have ajr := zo.out; have ajk := zx.out; have afD : w8.cell? ⟨jA, 0, none⟩ = some (.int .i64 0) := (az oH.out 0).trans rfl; have afC : w8.cell? ⟨jA, 1, none⟩ = some (.int .i64 0) := (az oH.out 1).trans rfl; have afB : w8.cell? ⟨jA, 2, none⟩ = some (.slice none 0 0) := (az oH.out 2).trans rfl; have ae1 := ay oH.out 0; have ae0 := ay oH.out 1; have aeZ := ay oH.out 2))
   refine bodyPost_ret (results_cell_row rfl _ _ jA 29 #[.int .i64 bH, .int .i64 bI, .slice Ao6 bu.length Z8] (0, 0) _ rfl (by (with_reducible repeat (first | refine aB ?_ _ | refine aF ?_ | refine aC ?_ _)); refine gq (cs := #[.int .i64 bH, .int .i64 bI, .slice none 0 0]) ?_ 2 _ rfl; (with_reducible repeat (first | refine aB ?_ _ | refine aF ?_ | refine aC ?_ _)); refine gq (cs := #[.int .i64 bH, .int .i64 0, .slice none 0 0]) ?_ 1 _ rfl; (with_reducible repeat (first | refine aB ?_ _ | refine aF ?_ | refine aC ?_ _)); refine gq (cs := #[.int .i64 0, .int .i64 0, .slice none 0 0]) ?_ 0 _ rfl; (with_reducible repeat (first | refine aB ?_ _ | refine aF ?_ | refine aC ?_ _)); refine lN ?_ zo.out _; (with_reducible repeat (first | refine aB ?_ _ | refine aF ?_ | refine aC ?_ _)); exact oH.out) Tryz.underlying29 rfl (by kernel_rfl)) rfl ?_
   exact ⟨_, by first | rfl | (simp [aO, aN] <;> rfl) | (simp [*, aO, aN] <;> rfl), by (with_reducible repeat (first | apply Kd.gX | apply Kd.gW | apply Kd.iM)); exact Kd.kZ (Kd.oD (p := ⟨jA, 2, none⟩) (Kd.oD (p := ⟨jA, 1, none⟩) (Kd.oD (p := ⟨jA, 0, none⟩) (Kd.oD (p := ⟨g, 0, none⟩) (Kd.xm (aI.apart HI0.out oN.out (by decide)) oH.out (by decide)) (fun _ hk => hk.1.2) (.bool true)) (fun _ hk => hk.2) (.int .i64 bH)) (fun _ hk => hk.2) (.int .i64 bI)) (fun _ hk => hk.2) (.slice Ao6 bu.length Z8)) (fun _ hk => hk.1.1), by repeat (first | (with_reducible first | exact HI0.out | apply aI.alloc | apply aI.drewN | apply aI.drew | apply aI.iU | refine aI.far ?_ nM.out _ | refine aI.far ?_ zx.out _) | exact HI0.out), by repeat (first | (with_reducible first | exact HB.out | apply ak | apply ah | apply au | refine aA ?_ (aI.ge HI0.out) | refine aA ?_ EZ.out | refine aA ?_ Vt.out) | exact HB.out), by repeat (first | (with_reducible first | exact HK.out | apply Kept.alloc | apply Kept.drewN | apply Kept.drew | refine Kept.setCell ?_ (.inl (.inr rfl)) _ | refine Kept.setCell ?_ (.inr ET.out) _ | refine Kept.setCell ?_ (.inr Vr.out) _) | exact HK.out)⟩
 · replace c5 := Bool.eq_false_iff.mpr c5
   subst c5
   have H1 : (some (bH, bI, bu, a2)) = some (r1, r2, r3, r4) := by rw [if_neg (show ¬ (false = true) by decide)] at H; exact H
   clear H; have H := H1; clear H1; simp only [Option.some.injEq, Prod.mk.injEq] at H; obtain ⟨rfl, rfl, rfl, rfl⟩ := H; obtain ⟨OO, Og, ahu⟩ := Kd.jV oN.out; subst ahu
   go_enter Tryz.func151, Tryz.ntmps151
   go_wp2_with (first | ((with_reducible refine dG (N := 5) rfl ?_); refine cu ?hg (N := 5) ?hd (cs := #[.int .i64 bH, .int .i64 bI, .slice OO bu.length Og]) (t := 29) ?hr ?_; (case hd => rfl); (case hg => rfl); (case hr => first | (go_simp; done) | (go_simp; rfl)); intro jO hg w16 hbox hb; have bF := aj.mk (Kd.pG (by (with_reducible repeat (first | apply Kd.gX | apply Kd.gW | apply Kd.iM)); exact oN.out) hb); have dS := aj.mk (aI.below (by repeat (first | (with_reducible first | exact HI0.out | apply aI.alloc | apply aI.drewN | apply aI.drew | apply aI.iU) | exact HI0.out)) hb); have eF := aj.mk (Kept.below (S := (fun k_ => (sD k_) ∨ k_ = g)) (by repeat (first | (with_reducible first | exact HK.out | apply Kept.alloc | apply Kept.drewN | apply Kept.drew | refine Kept.setCell ?_ (.inl (.inr rfl)) _) | exact HK.out)) hb); have fP := aj.mk (aP (by repeat (first | (with_reducible first | exact HB.out | apply ak | apply ah | apply au | refine aA ?_ (aI.ge HI0.out)) | exact HB.out)) hb); have jT := aj.mk (hbox); have ku := aj.mk ((by rw [hg]; exact (by first | exact HK.out.1 | exact (show Kept w _ (fun k_ => (sD k_) ∨ k_ = g) from by repeat (first | (with_reducible first | exact HK.out | apply Kept.alloc | apply Kept.drewN | apply Kept.drew | refine Kept.setCell ?_ (.inl (.inr rfl)) _) | exact HK.out)).1) : w.heap.size ≤ jO)); have kU := aj.mk ((by rw [hg]; exact (bf (by repeat (first | (with_reducible first | exact HB.out | apply ak | apply ah | apply au | refine aA ?_ (aI.ge HI0.out)) | exact HB.out))) : w0.heap.size ≤ jO)); have xH := aj.mk ((by rw [hg]; exact Nat.ne_of_lt (aI.lt (show aI w0 _ g false from by repeat (first | (with_reducible first | exact HI0.out | apply aI.alloc | apply aI.drewN | apply aI.drew | apply aI.iU) | exact HI0.out))) : g ≠ jO)); have AA := aj.mk ((by rw [hg]; exact Nat.ne_of_gt (aI.lt (show aI w0 _ g false from by repeat (first | (with_reducible first | exact HI0.out | apply aI.alloc | apply aI.drewN | apply aI.drew | apply aI.iU) | exact HI0.out))) : jO ≠ g)); clear oN; clear HI0; clear HK; clear HB; have oN := bF; have HI0 := dS; have HK := eF; have HB := fP; have kP := jT; have ET := ku; have EZ := kU; have nM := xH; have Ju := AA; clear bF dS eF fP jT ku kU xH AA; clear hb hbox hg) | ((with_reducible refine dG (N := 8) rfl ?_); refine cu ?hg (N := 8) ?hd (cs := #[.int .i64 0, .int .i64 0, .slice none 0 0]) (t := 29) ?hr ?_; (case hd => rfl); (case hg => rfl); (case hr => first | (go_simp; done) | (go_simp; rfl)); intro jA hg w17 hbox hb; have bF := aj.mk (Kd.pG (by (with_reducible repeat (first | apply Kd.gX | apply Kd.gW | apply Kd.iM)); exact oN.out) hb); have dS := aj.mk (aI.below (by repeat (first | (with_reducible first | exact HI0.out | apply aI.alloc | apply aI.drewN | apply aI.drew | apply aI.iU | refine aI.far ?_ nM.out _) | exact HI0.out)) hb); have eF := aj.mk (bz (g := jO) (o := .cells #[.int .i64 bH, .int .i64 bI, .slice OO bu.length Og] 29 (0, 0)) (by (with_reducible repeat (first | refine aB ?_ _ | refine aF ?_ | refine aC ?_ _)); exact kP.out) hb); have fP := aj.mk (Kept.below (S := (fun k_ => (sD k_) ∨ k_ = g)) (by repeat (first | (with_reducible first | exact HK.out | apply Kept.alloc | apply Kept.drewN | apply Kept.drew | refine Kept.setCell ?_ (.inl (.inr rfl)) _ | refine Kept.setCell ?_ (.inr ET.out) _) | exact HK.out)) hb); have jT := aj.mk (aP (by repeat (first | (with_reducible first | exact HB.out | apply ak | apply ah | apply au | refine aA ?_ (aI.ge HI0.out) | refine aA ?_ EZ.out) | exact HB.out)) hb); have ku := aj.mk (hbox); have kU := aj.mk ((by rw [hg]; exact (by first | exact HK.out.1 | exact (show Kept w _ (fun k_ => (sD k_) ∨ k_ = g) from by repeat (first | (with_reducible first | exact HK.out | apply Kept.alloc | apply Kept.drewN | apply Kept.drew | refine Kept.setCell ?_ (.inl (.inr rfl)) _ | refine Kept.setCell ?_ (.inr ET.out) _) | exact HK.out)).1) : w.heap.size ≤ jA)); have xH := aj.mk ((by rw [hg]; exact (bf (by repeat (first | (with_reducible first | exact HB.out | apply ak | apply ah | apply au | refine aA ?_ (aI.ge HI0.out) | refine aA ?_ EZ.out) | exact HB.out))) : w0.heap.size ≤ jA)); have AA := aj.mk ((by rw [hg]; exact Nat.ne_of_lt (d_ (g := jO) (o := .cells #[.int .i64 bH, .int .i64 bI, .slice OO bu.length Og] 29 (0, 0)) (by (with_reducible repeat (first | refine aB ?_ _ | refine aF ?_ | refine aC ?_ _)); exact kP.out)) : jO ≠ jA)); have Pj := aj.mk ((by rw [hg]; exact Nat.ne_of_gt (d_ (g := jO) (o := .cells #[.int .i64 bH, .int .i64 bI, .slice OO bu.length Og] 29 (0, 0)) (by (with_reducible repeat (first | refine aB ?_ _ | refine aF ?_ | refine aC ?_ _)); exact kP.out)) : jA ≠ jO)); have yN := aj.mk ((by rw [hg]; exact Nat.ne_of_lt (aI.lt (show aI w0 _ g false from by repeat (first | (with_reducible first | exact HI0.out | apply aI.alloc | apply aI.drewN | apply aI.drew | apply aI.iU | refine aI.far ?_ nM.out _) | exact HI0.out))) : g ≠ jA)); have JV := aj.mk ((by rw [hg]; exact Nat.ne_of_gt (aI.lt (show aI w0 _ g false from by repeat (first | (with_reducible first | exact HI0.out | apply aI.alloc | apply aI.drewN | apply aI.drew | apply aI.iU | refine aI.far ?_ nM.out _) | exact HI0.out))) : jA ≠ g)); clear oN; clear HI0; clear kP; clear HK; clear HB; have oN := bF; have HI0 := dS; have kP := eF; have HK := fP; have HB := jT; have oH := ku; have Vr := kU; have Vt := xH; have Ar := AA; have Aj := Pj; have zx := yN; have zo := JV; clear bF dS eF fP jT ku kU xH AA Pj yN JV; clear hb hbox hg; obtain ⟨Vq, abY⟩ := HI0.out; have Px := EC Vq; have Pv := ay Vq 0; clear Vq abY; have ajo := Ar.out; have ajh := Aj.out; have ajn := Ju.out; have ajg := nM.out; have afr : w17.cell? ⟨jO, 0, none⟩ = some (.int .i64 bH) := (az kP.out 0).trans rfl; have afq : w17.cell? ⟨jO, 1, none⟩ = some (.int .i64 bI) := (az kP.out 1).trans rfl; have afp : w17.cell? ⟨jO, 2, none⟩ = some (.slice OO bu.length Og) := (az kP.out 2).trans rfl; have aeP := ay kP.out 0; have aeO := ay kP.out 1; have aeN := ay kP.out 2; have Yp := zo.out; have Yn := zx.out; have Xi : w17.cell? ⟨jA, 0, none⟩ = some (.int .i64 0) := (az oH.out 0).trans rfl; have Xh : w17.cell? ⟨jA, 1, none⟩ = some (.int .i64 0) := (az oH.out 1).trans rfl; have Xg : w17.cell? ⟨jA, 2, none⟩ = some (.slice none 0 0) := (az oH.out 2).trans rfl; have WN := ay oH.out 0; have WM := ay oH.out 1; have WL := ay oH.out 2))
   refine bodyPost_ret (results_cell_row rfl _ _ jA 29 #[.int .i64 bH, .int .i64 bI, .slice OO bu.length Og] (0, 0) _ rfl (by (with_reducible repeat (first | refine aB ?_ _ | refine aF ?_ | refine aC ?_ _)); refine gq (cs := #[.int .i64 bH, .int .i64 bI, .slice none 0 0]) ?_ 2 _ rfl; (with_reducible repeat (first | refine aB ?_ _ | refine aF ?_ | refine aC ?_ _)); refine gq (cs := #[.int .i64 bH, .int .i64 0, .slice none 0 0]) ?_ 1 _ rfl; (with_reducible repeat (first | refine aB ?_ _ | refine aF ?_ | refine aC ?_ _)); refine gq (cs := #[.int .i64 0, .int .i64 0, .slice none 0 0]) ?_ 0 _ rfl; (with_reducible repeat (first | refine aB ?_ _ | refine aF ?_ | refine aC ?_ _)); refine lN ?_ zo.out _; (with_reducible repeat (first | refine aB ?_ _ | refine aF ?_ | refine aC ?_ _)); exact oH.out) Tryz.underlying29 rfl (by kernel_rfl)) rfl ?_
   exact ⟨_, by first | rfl | (simp [aO, aN] <;> rfl) | (simp [*, aO, aN] <;> rfl), by (with_reducible repeat (first | apply Kd.gX | apply Kd.gW | apply Kd.iM)); exact Kd.kZ (Kd.oD (p := ⟨jA, 2, none⟩) (Kd.oD (p := ⟨jA, 1, none⟩) (Kd.oD (p := ⟨jA, 0, none⟩) (Kd.oD (p := ⟨g, 0, none⟩) (Kd.xm (aI.apart HI0.out oN.out (by decide)) oH.out (by decide)) (fun _ hk => hk.1.2) (.bool a2)) (fun _ hk => hk.2) (.int .i64 bH)) (fun _ hk => hk.2) (.int .i64 bI)) (fun _ hk => hk.2) (.slice OO bu.length Og)) (fun _ hk => hk.1.1), by repeat (first | (with_reducible first | exact HI0.out | apply aI.alloc | apply aI.drewN | apply aI.drew | apply aI.iU | refine aI.far ?_ nM.out _ | refine aI.far ?_ zx.out _) | exact HI0.out), by repeat (first | (with_reducible first | exact HB.out | apply ak | apply ah | apply au | refine aA ?_ (aI.ge HI0.out) | refine aA ?_ EZ.out | refine aA ?_ Vt.out) | exact HB.out), by repeat (first | (with_reducible first | exact HK.out | apply Kept.alloc | apply Kept.drewN | apply Kept.drew | refine Kept.setCell ?_ (.inl (.inr rfl)) _ | refine Kept.setCell ?_ (.inr ET.out) _ | refine Kept.setCell ?_ (.inr Vr.out) _) | exact HK.out)⟩
def bP.f (nU : Bool) (bH : Int) (bI : Int) (bu : List Int) (mP : Int) (mO : Int) (kR : List Int) : Option (Int × Int × List Int × Bool) := (jm.f bH bI bu mP mO kR).bind fun vW => ((dH.f nU vW.1 vW.2.1 vW.2.2.1 vW.2.2.2.1 vW.2.2.2.2).bind fun qU => ((jQ.f bH bI bu).bind fun qm => ((jm.f qU.1 qU.2.1 qU.2.2.1 qm.1 qm.2.1 qm.2.2).bind fun jd => ((dH.f qU.2.2.2 jd.1 jd.2.1 jd.2.2.1 jd.2.2.2.1 jd.2.2.2.2).bind fun jc => (some (jc.1, jc.2.1, jc.2.2.1, jc.2.2.2))))))
def bP.T1 : Bool × List (List Nat × List Nat) := (true, [([], []), ([], []), ([], []), ([], []), ([2, 3], [2, 3]), ([4], [4]), ([4], [4]), ([4], [4]), ([1, 5, 6, 7, 4], [1, 5, 6, 7]), ([], []), ([9, 8], [9]), ([8, 10, 10], [8, 10]), ([11], [11]), ([11], [11]), ([11], [11]), ([0, 12, 13, 14, 11], [0, 12, 13, 14]), ([15, 15, 0, 1, 2, 3, 4, 5, 6, 7, 8, 9, 10, 11, 12, 13, 14, 15], [15])])
def bP.B1 : List Nat := [0, 0, 0, 0, 12, 28, 28, 28, 254, 0, 1022, 2046, 4094, 4094, 4094, 32767, 65535]
theorem bP.VG : pV .any (opsOf Tryz.f154 1) = bP.T1 := by kernel_rfl
theorem bP.PO : sN bP.T1.2 bP.B1 = true := by kernel_rfl
theorem bP.calls (g : Nat) (nU : Bool) (bH : Int) (bI : Int) (eH : Option Addr) (eY : Nat) (bu : List Int) (mP : Int) (mO : Int) (rE : Option Addr) (ug : Nat) (kR : List Int) (r1 : Int) (r2 : Int) (r3 : List Int) (r4 : Bool) (w0 w : World) (hI : aI w0 w g nU) (hB : Below w0.heap.size w0 w) (mZ : Kd.C (Kd.int .i64) w eH bu.length bu) (nO : bu.length ≤ eY) (Ku : ∀ ad, eH = some ad → 0 < bu.length → ad.block ≠ g) (J7 : Kd.C (Kd.int .i64) w rE kR.length kR) (Kw : kR.length ≤ ug) (Kt : ∀ ad, rE = some ad → 0 < kR.length → ad.block ≠ g) (h : bP.f nU bH bI bu mP mO kR = some (r1, r2, r3, r4)) :
 Calls Tryz.prog 154 #[.pointer (some ⟨g, 0, none⟩), .agg #[.int .i64 bH, .int .i64 bI, .slice eH bu.length eY], .agg #[.int .i64 mP, .int .i64 mO, .slice rE kR.length ug]] w fun e w' => ∃ JB : Value, e = .returned (.agg #[.int .i64 r1, .int .i64 r2, JB]) ∧ Kd.R (Kd.int .i64) 22 w' w.heap.size (fun _ => True) JB r3 ∧ aI w0 w' g r4 ∧ Below w0.heap.size w0 w' ∧ bC w w' g none := by
 have Ip := Tryz.underlying29; have sH := aj.mk mZ; have wo := aj.mk nO; clear mZ nO; have adz := aj.mk J7; have adH := aj.mk Kw; clear J7 Kw; have HI0 := aj.mk hI; have HK := aj.mk (bC.refl w g none); have HL := aj.mk hB.size; clear hI; have HW0 := aj.mk hB.size; have HB := aj.mk hB; clear hB; have H : ((jm.f bH bI bu mP mO kR).bind fun vW => ((dH.f nU vW.1 vW.2.1 vW.2.2.1 vW.2.2.2.1 vW.2.2.2.2).bind fun qU => ((jQ.f bH bI bu).bind fun qm => ((jm.f qU.1 qU.2.1 qU.2.2.1 qm.1 qm.2.1 qm.2.2).bind fun jd => ((dH.f qU.2.2.2 jd.1 jd.2.1 jd.2.2.1 jd.2.2.2.1 jd.2.2.2.2).bind fun jc => (some (jc.1, jc.2.1, jc.2.2.1, jc.2.2.2))))))) = some (r1, r2, r3, r4) := h; clear h; replace H := Option.bind_eq_some_iff.mp H; obtain ⟨⟨t106, t107, t108, t111, t112⟩, Ll, H⟩ := H; replace H : ((dH.f nU t106 t107 t108 t111 t112).bind fun qU => ((jQ.f bH bI bu).bind fun qm => ((jm.f qU.1 qU.2.1 qU.2.2.1 qm.1 qm.2.1 qm.2.2).bind fun jd => ((dH.f qU.2.2.2 jd.1 jd.2.1 jd.2.2.1 jd.2.2.2.1 jd.2.2.2.2).bind fun jc => (some (jc.1, jc.2.1, jc.2.2.1, jc.2.2.2)))))) = some (r1, r2, r3, r4) := H; have A4 := aj.mk Ll; clear Ll; replace H := Option.bind_eq_some_iff.mp H; obtain ⟨⟨t113, t114, t115, t118⟩, YR, H⟩ := H; replace H : ((jQ.f bH bI bu).bind fun qm => ((jm.f t113 t114 t115 qm.1 qm.2.1 qm.2.2).bind fun jd => ((dH.f t118 jd.1 jd.2.1 jd.2.2.1 jd.2.2.2.1 jd.2.2.2.2).bind fun jc => (some (jc.1, jc.2.1, jc.2.2.1, jc.2.2.2))))) = some (r1, r2, r3, r4) := H; have A5 := aj.mk YR; clear YR; replace H := Option.bind_eq_some_iff.mp H; obtain ⟨⟨t119, t120, t121⟩, YQ, H⟩ := H; replace H : ((jm.f t113 t114 t115 t119 t120 t121).bind fun jd => ((dH.f t118 jd.1 jd.2.1 jd.2.2.1 jd.2.2.2.1 jd.2.2.2.2).bind fun jc => (some (jc.1, jc.2.1, jc.2.2.1, jc.2.2.2)))) = some (r1, r2, r3, r4) := H; have A6 := aj.mk YQ; clear YQ; replace H := Option.bind_eq_some_iff.mp H; obtain ⟨⟨t124, t125, t126, t129, t130⟩, YP, H⟩ := H; replace H : ((dH.f t118 t124 t125 t126 t129 t130).bind fun jc => (some (jc.1, jc.2.1, jc.2.2.1, jc.2.2.2))) = some (r1, r2, r3, r4) := H; have A7 := aj.mk YP; clear YP; replace H := Option.bind_eq_some_iff.mp H; obtain ⟨⟨t131, t132, t133, t136⟩, A80, H⟩ := H; replace H : (some (t131, t132, t133, t136)) = some (r1, r2, r3, r4) := H; have A8 := aj.mk A80; clear A80; simp only [Option.some.injEq, Prod.mk.injEq] at H; obtain ⟨rfl, rfl, rfl, rfl⟩ := H
 go_enter Tryz.func154, Tryz.ntmps154
 try go_wp2_with (first | ((with_reducible refine dG (N := 4) rfl ?_); refine cu ?hg (N := 4) ?hd (cs := #[.int .i64 bH, .int .i64 bI, .slice eH bu.length eY]) (t := 29) ?hr ?_; (case hd => rfl); (case hg => rfl); (case hr => first | (go_simp; done) | (go_simp; rfl)); intro lG hg w9 hbox hb; have bF := aj.mk (aI.below (by repeat (first | (with_reducible first | exact HI0.out | apply aI.alloc | apply aI.drewN | apply aI.drew | apply aI.iU) | exact HI0.out)) hb); have dS := aj.mk (bC.trans (by repeat (first | (with_reducible first | exact HK.out | apply bC.pU | apply dL | apply dR | apply dM) | exact HK.out)) (bC.of_below hb g none) (.inl rfl)); have eF := aj.mk (aP (by repeat (first | (with_reducible first | exact HB.out | apply ak | apply ah | apply au | refine aA ?_ (aI.ge HI0.out)) | exact HB.out)) hb); have fP := aj.mk (hbox); have jT := aj.mk ((by rw [hg]; exact (jw (w := w) (g := g) (row := none) (by repeat (first | (with_reducible first | exact HK.out | apply bC.pU | apply dL | apply dR | apply dM) | exact HK.out))) : w.heap.size ≤ lG)); have ku := aj.mk ((Nat.le_trans HW0.out (by rw [hg]; exact (jw (w := w) (g := g) (row := none) (by repeat (first | (with_reducible first | exact HK.out | apply bC.pU | apply dL | apply dR | apply dM) | exact HK.out))) : w.heap.size ≤ lG) : w0.heap.size ≤ lG)); have kU := aj.mk ((by rw [hg]; exact Nat.ne_of_lt (aI.lt (show aI w0 _ g nU from by repeat (first | (with_reducible first | exact HI0.out | apply aI.alloc | apply aI.drewN | apply aI.drew | apply aI.iU) | exact HI0.out))) : g ≠ lG)); have xH := aj.mk ((by rw [hg]; exact Nat.ne_of_gt (aI.lt (show aI w0 _ g nU from by repeat (first | (with_reducible first | exact HI0.out | apply aI.alloc | apply aI.drewN | apply aI.drew | apply aI.iU) | exact HI0.out))) : lG ≠ g)); clear HI0; clear HK; clear HB; have HI0 := bF; have HK := dS; have HB := eF; have fB := fP; have mG := jT; have BA := ku; have lQ := kU; have P_ := xH; clear bF dS eF fP jT ku kU xH; clear hb hbox hg) | ((with_reducible refine dG (N := 5) rfl ?_); refine cu ?hg (N := 5) ?hd (cs := #[.int .i64 mP, .int .i64 mO, .slice rE kR.length ug]) (t := 29) ?hr ?_; (case hd => rfl); (case hg => rfl); (case hr => first | (go_simp; done) | (go_simp; rfl)); intro nR hg w10 hbox hb; have bF := aj.mk (aI.below (by repeat (first | (with_reducible first | exact HI0.out | apply aI.alloc | apply aI.drewN | apply aI.drew | apply aI.iU | refine aI.far ?_ lQ.out _) | exact HI0.out)) hb); have dS := aj.mk (bz (g := lG) (o := .cells #[.int .i64 bH, .int .i64 bI, .slice eH bu.length eY] 29 (0, 0)) (by (with_reducible repeat (first | refine aB ?_ _ | refine aF ?_ | refine aC ?_ _)); exact fB.out) hb); have eF := aj.mk (bC.trans (by repeat (first | (with_reducible first | exact HK.out | apply bC.pU | apply dL | apply dR | apply dM | refine bG ?_ mG.out _) | exact HK.out)) (bC.of_below hb g none) (.inl rfl)); have fP := aj.mk (aP (by repeat (first | (with_reducible first | exact HB.out | apply ak | apply ah | apply au | refine aA ?_ (aI.ge HI0.out) | refine aA ?_ BA.out) | exact HB.out)) hb); have jT := aj.mk (hbox); have ku := aj.mk ((by rw [hg]; exact (jw (w := w) (g := g) (row := none) (by repeat (first | (with_reducible first | exact HK.out | apply bC.pU | apply dL | apply dR | apply dM | refine bG ?_ mG.out _) | exact HK.out))) : w.heap.size ≤ nR)); have kU := aj.mk ((Nat.le_trans HW0.out (by rw [hg]; exact (jw (w := w) (g := g) (row := none) (by repeat (first | (with_reducible first | exact HK.out | apply bC.pU | apply dL | apply dR | apply dM | refine bG ?_ mG.out _) | exact HK.out))) : w.heap.size ≤ nR) : w0.heap.size ≤ nR)); have xH := aj.mk ((by rw [hg]; exact Nat.ne_of_lt (d_ (g := lG) (o := .cells #[.int .i64 bH, .int .i64 bI, .slice eH bu.length eY] 29 (0, 0)) (by (with_reducible repeat (first | refine aB ?_ _ | refine aF ?_ | refine aC ?_ _)); exact fB.out)) : lG ≠ nR)); have AA := aj.mk ((by rw [hg]; exact Nat.ne_of_gt (d_ (g := lG) (o := .cells #[.int .i64 bH, .int .i64 bI, .slice eH bu.length eY] 29 (0, 0)) (by (with_reducible repeat (first | refine aB ?_ _ | refine aF ?_ | refine aC ?_ _)); exact fB.out)) : nR ≠ lG)); have Pj := aj.mk ((by rw [hg]; exact Nat.ne_of_lt (aI.lt (show aI w0 _ g nU from by repeat (first | (with_reducible first | exact HI0.out | apply aI.alloc | apply aI.drewN | apply aI.drew | apply aI.iU | refine aI.far ?_ lQ.out _) | exact HI0.out))) : g ≠ nR)); have yN := aj.mk ((by rw [hg]; exact Nat.ne_of_gt (aI.lt (show aI w0 _ g nU from by repeat (first | (with_reducible first | exact HI0.out | apply aI.alloc | apply aI.drewN | apply aI.drew | apply aI.iU | refine aI.far ?_ lQ.out _) | exact HI0.out))) : nR ≠ g)); clear HI0; clear fB; clear HK; clear HB; have HI0 := bF; have fB := dS; have HK := eF; have HB := fP; have fG := jT; have oG := ku; have EY := kU; have aba := xH; have aa_ := AA; have pI := Pj; have P8 := yN; clear bF dS eF fP jT ku kU xH AA Pj yN; clear hb hbox hg) | ((with_reducible refine dG (N := 6) rfl ?_); refine cu ?hg (N := 6) ?hd (cs := #[.int .i64 0, .int .i64 0, .slice none 0 0]) (t := 29) ?hr ?_; (case hd => rfl); (case hg => rfl); (case hr => first | (go_simp; done) | (go_simp; rfl)); intro gG hg BG hbox hb; have bF := aj.mk (aI.below (by repeat (first | (with_reducible first | exact HI0.out | apply aI.alloc | apply aI.drewN | apply aI.drew | apply aI.iU | refine aI.far ?_ lQ.out _ | refine aI.far ?_ pI.out _) | exact HI0.out)) hb); have dS := aj.mk (bz (g := lG) (o := .cells #[.int .i64 bH, .int .i64 bI, .slice eH bu.length eY] 29 (0, 0)) (by (with_reducible repeat (first | refine aB ?_ _ | refine aF ?_ | refine aC ?_ _)); exact fB.out) hb); have eF := aj.mk (bz (g := nR) (o := .cells #[.int .i64 mP, .int .i64 mO, .slice rE kR.length ug] 29 (0, 0)) (by (with_reducible repeat (first | refine aB ?_ _ | refine aF ?_ | refine aC ?_ _)); exact fG.out) hb); have fP := aj.mk (bC.trans (by repeat (first | (with_reducible first | exact HK.out | apply bC.pU | apply dL | apply dR | apply dM | refine bG ?_ mG.out _ | refine bG ?_ oG.out _) | exact HK.out)) (bC.of_below hb g none) (.inl rfl)); have jT := aj.mk (aP (by repeat (first | (with_reducible first | exact HB.out | apply ak | apply ah | apply au | refine aA ?_ (aI.ge HI0.out) | refine aA ?_ BA.out | refine aA ?_ EY.out) | exact HB.out)) hb); have ku := aj.mk (hbox); have kU := aj.mk ((by rw [hg]; exact (jw (w := w) (g := g) (row := none) (by repeat (first | (with_reducible first | exact HK.out | apply bC.pU | apply dL | apply dR | apply dM | refine bG ?_ mG.out _ | refine bG ?_ oG.out _) | exact HK.out))) : w.heap.size ≤ gG)); have xH := aj.mk ((Nat.le_trans HW0.out (by rw [hg]; exact (jw (w := w) (g := g) (row := none) (by repeat (first | (with_reducible first | exact HK.out | apply bC.pU | apply dL | apply dR | apply dM | refine bG ?_ mG.out _ | refine bG ?_ oG.out _) | exact HK.out))) : w.heap.size ≤ gG) : w0.heap.size ≤ gG)); have AA := aj.mk ((by rw [hg]; exact Nat.ne_of_lt (d_ (g := lG) (o := .cells #[.int .i64 bH, .int .i64 bI, .slice eH bu.length eY] 29 (0, 0)) (by (with_reducible repeat (first | refine aB ?_ _ | refine aF ?_ | refine aC ?_ _)); exact fB.out)) : lG ≠ gG)); have Pj := aj.mk ((by rw [hg]; exact Nat.ne_of_gt (d_ (g := lG) (o := .cells #[.int .i64 bH, .int .i64 bI, .slice eH bu.length eY] 29 (0, 0)) (by (with_reducible repeat (first | refine aB ?_ _ | refine aF ?_ | refine aC ?_ _)); exact fB.out)) : gG ≠ lG)); have yN := aj.mk ((by rw [hg]; exact Nat.ne_of_lt (d_ (g := nR) (o := .cells #[.int .i64 mP, .int .i64 mO, .slice rE kR.length ug] 29 (0, 0)) (by (with_reducible repeat (first | refine aB ?_ _ | refine aF ?_ | refine aC ?_ _)); exact fG.out)) : nR ≠ gG)); have JV := aj.mk ((by rw [hg]; exact Nat.ne_of_gt (d_ (g := nR) (o := .cells #[.int .i64 mP, .int .i64 mO, .slice rE kR.length ug] 29 (0, 0)) (by (with_reducible repeat (first | refine aB ?_ _ | refine aF ?_ | refine aC ?_ _)); exact fG.out)) : gG ≠ nR)); have abu := aj.mk ((by rw [hg]; exact Nat.ne_of_lt (aI.lt (show aI w0 _ g nU from by repeat (first | (with_reducible first | exact HI0.out | apply aI.alloc | apply aI.drewN | apply aI.drew | apply aI.iU | refine aI.far ?_ lQ.out _ | refine aI.far ?_ pI.out _) | exact HI0.out))) : g ≠ gG)); have abt := aj.mk ((by rw [hg]; exact Nat.ne_of_gt (aI.lt (show aI w0 _ g nU from by repeat (first | (with_reducible first | exact HI0.out | apply aI.alloc | apply aI.drewN | apply aI.drew | apply aI.iU | refine aI.far ?_ lQ.out _ | refine aI.far ?_ pI.out _) | exact HI0.out))) : gG ≠ g)); clear HI0; clear fB; clear fG; clear HK; clear HB; have HI0 := bF; have fB := dS; have fG := eF; have HK := fP; have HB := jT; have jh := ku; have qV := kU; have GZ := xH; have iR := AA; have Ad := Pj; have iQ := yN; have Ac := JV; have xu := abu; have P7 := abt; clear bF dS eF fP jT ku kU xH AA Pj yN JV abu abt; clear hb hbox hg))
 have bF := aj.mk (aF fB.out); have dS := aj.mk (aF fG.out); have eF := aj.mk (aF jh.out); have fP := aj.mk (aI.drew HI0.out); have jT := aj.mk (dR HK.out); have ku := aj.mk (au HB.out); clear fB; clear fG; clear jh; clear HI0; clear HK; clear HB; have fB := bF; have fG := dS; have jh := eF; have HI0 := fP; have HK := jT; have HB := ku; clear bF dS eF fP jT ku; refine Hy (n := 17) (S := fun w' => w'.cell? ⟨lG, 0, none⟩ = some (.int .i64 bH) ∧ w'.cell? ⟨lG, 1, none⟩ = some (.int .i64 bI) ∧ w'.cell? ⟨lG, 2, none⟩ = some (.slice eH bu.length eY) ∧ w'.cell? ⟨nR, 0, none⟩ = some (.int .i64 mP) ∧ w'.cell? ⟨nR, 1, none⟩ = some (.int .i64 mO) ∧ w'.cell? ⟨nR, 2, none⟩ = some (.slice rE kR.length ug)) (ds := []) #[false, false, false, false, false, false, false, false, false, false, false, false, false, false, false, false, false] (by kernel_rfl) rfl rfl ⟨(az fB.out 0).trans rfl, (az fB.out 1).trans rfl, (az fB.out 2).trans rfl, (az fG.out 0).trans rfl, (az fG.out 1).trans rfl, (az fG.out 2).trans rfl⟩ (fun hHeld => ?_); refine wI bP.VG bP.PO (fun kN Ld => ?_)
 generalize BG.drew = w12 at fB fG jh HI0 HK HB hHeld ⊢; refine gy (i := 0) (N := some 7) (v := ?_) (a' := ?_) #[true, false, false, false, false, false, false, false, false, false, false, false, false, false, false, false, false] rfl rfl (dX kN.out (by kernel_rfl)) (fun _ _ _ h => h) (Or.inl ⟨by rfl, ?_⟩) ?_ ?_
 rotate_left
 · intro w'
   go_simp
   with_reducible rfl
 rotate_left
 · simp only [Act.put, List.setIfInBounds_toArray, List.set_cons_zero, List.set_cons_succ, dA, dB]
   rfl
 refine gy (i := 1) (N := some 8) (v := ?_) (a' := ?_) #[true, true, false, false, false, false, false, false, false, false, false, false, false, false, false, false, false] rfl rfl (dX kN.out (by kernel_rfl)) (fun _ _ _ h => h) (Or.inl ⟨by rfl, ?_⟩) ?_ ?_
 rotate_left
 · intro w'
   go_simp
   with_reducible rfl
 rotate_left
 · simp only [Act.put, List.setIfInBounds_toArray, List.set_cons_zero, List.set_cons_succ, dA, dB]
   rfl
 refine qB (i := 2) (N := some 9) (v := ?_) (a' := ?_) #[true, true, true, false, false, false, false, false, false, false, false, false, false, false, false, false, false] rfl rfl (iT kN.out Ld.out (by kernel_rfl)) (fun _ _ _ h => h) (Or.inl ⟨by rfl, ?_⟩) hHeld ?_ ?_
 rotate_left
 · rintro w' ⟨s0, s1, s2, s3, s4, s5⟩
   go_simp
   with_reducible rfl
 rotate_left
 · simp only [Act.put, List.setIfInBounds_toArray, List.set_cons_zero, List.set_cons_succ, dA, dB]
   rfl
 refine qB (i := 3) (N := some 10) (v := ?_) (a' := ?_) #[true, true, true, true, false, false, false, false, false, false, false, false, false, false, false, false, false] rfl rfl (iT kN.out Ld.out (by kernel_rfl)) (fun _ _ _ h => h) (Or.inl ⟨by rfl, ?_⟩) hHeld ?_ ?_
 rotate_left
 · rintro w' ⟨s0, s1, s2, s3, s4, s5⟩
   go_simp
   with_reducible rfl
 rotate_left
 · simp only [Act.put, List.setIfInBounds_toArray, List.set_cons_zero, List.set_cons_succ, dA, dB]
   rfl
 refine qB (i := 9) (N := some 16) (v := ?_) (a' := ?_) #[true, true, true, true, false, false, false, false, false, true, false, false, false, false, false, false, false] rfl rfl (iT kN.out Ld.out (by kernel_rfl)) (fun _ _ _ h => h) (Or.inl ⟨by rfl, ?_⟩) hHeld ?_ ?_
 rotate_left
 · rintro w' ⟨s0, s1, s2, s3, s4, s5⟩
   go_simp
   with_reducible rfl
 rotate_left
 · simp only [Act.put, List.setIfInBounds_toArray, List.set_cons_zero, List.set_cons_succ, dA, dB]
   rfl
 refine Dx (i := 4) (N := some 11) #[true, true, true, true, true, false, false, false, false, true, false, false, false, false, false, false, false] rfl rfl (oK kN.out (by kernel_rfl)) (by decide) (fun K hK => ?_)
 refine xK Tryz.func152 (by kernel_rfl) rfl #[.agg #[.int .i64 bH, .int .i64 bI, .slice eH bu.length eY], .agg #[.int .i64 mP, .int .i64 mO, .slice rE kR.length ug]] (by rfl) rfl rfl (by (try simp only [List.map_toArray, List.map_cons, List.map_nil]); first | done | rfl | (simp only [List.length_drop, List.length_take]; rfl)) ?_
 with_reducible refine (jm.calls bH bI _ _ bu mP mO _ _ kR t106 t107 t108 t111 t112 _ ?gm ?f_ ?pR ?uP A4.out).mono ?_
 (case gm => exact Kd.OL 0 sH.out (by repeat (first | (with_reducible first | exact HK.out | apply bC.pU | apply dL | apply dR | apply dM | refine bG ?_ mG.out _ | refine bG ?_ oG.out _ | refine bG ?_ qV.out _) | exact HK.out)) Ku)
 (case f_ => exact wo.out)
 (case pR => exact Kd.OL 0 adz.out (by repeat (first | (with_reducible first | exact HK.out | apply bC.pU | apply dL | apply dR | apply dM | refine bG ?_ mG.out _ | refine bG ?_ oG.out _ | refine bG ?_ qV.out _) | exact HK.out)) Kt)
 (case uP => exact adH.out)
 rintro e Su ⟨v109, rfl, ho0, hb⟩; refine ⟨_, rfl, ?_⟩
 have bF := aj.mk (Kd.pF ho0 (jw (w := w) (g := g) (row := none) (by repeat (first | (with_reducible first | exact HK.out | apply bC.pU | apply dL | apply dR | apply dM | refine bG ?_ mG.out _ | refine bG ?_ oG.out _ | refine bG ?_ qV.out _) | exact HK.out)))); have dS := aj.mk (aI.below (by repeat (first | (with_reducible first | exact HI0.out | apply aI.alloc | apply aI.drewN | apply aI.drew | apply aI.iU | refine aI.far ?_ lQ.out _ | refine aI.far ?_ pI.out _ | refine aI.far ?_ xu.out _) | exact HI0.out)) hb); have eF := aj.mk (bz (g := lG) (o := .cells #[.int .i64 bH, .int .i64 bI, .slice eH bu.length eY] 29 (0, 0)) (by (with_reducible repeat (first | refine aB ?_ _ | refine aF ?_ | refine aC ?_ _)); exact fB.out) hb); have fP := aj.mk (bz (g := nR) (o := .cells #[.int .i64 mP, .int .i64 mO, .slice rE kR.length ug] 29 (0, 0)) (by (with_reducible repeat (first | refine aB ?_ _ | refine aF ?_ | refine aC ?_ _)); exact fG.out) hb); have jT := aj.mk (bz (g := gG) (o := .cells #[.int .i64 0, .int .i64 0, .slice none 0 0] 29 (0, 0)) (by (with_reducible repeat (first | refine aB ?_ _ | refine aF ?_ | refine aC ?_ _)); exact jh.out) hb); have ku := aj.mk (bC.trans (by repeat (first | (with_reducible first | exact HK.out | apply bC.pU | apply dL | apply dR | apply dM | refine bG ?_ mG.out _ | refine bG ?_ oG.out _ | refine bG ?_ qV.out _) | exact HK.out)) (bC.of_below hb g none) (.inl rfl)); have kU := aj.mk (aP (by repeat (first | (with_reducible first | exact HB.out | apply ak | apply ah | apply au | refine aA ?_ (aI.ge HI0.out) | refine aA ?_ BA.out | refine aA ?_ EY.out | refine aA ?_ GZ.out) | exact HB.out)) hb); clear HI0; clear fB; clear fG; clear jh; clear HK; clear HB; have Bo := bF; have HI0 := dS; have fB := eF; have fG := fP; have jh := jT; have HK := ku; have HB := kU; clear bF dS eF fP jT ku kU
 (try clear hb)
 (try clear hb2)
 (try clear hk)
 (try clear hi)
 (try clear ho0)
 obtain ⟨aaT, Z_, ab8⟩ := Kd.jV Bo.out
 (first | subst ab8 | (injection ab8 with KE Ux KD; have Uw := KE.symm; have Uu := KD.symm; clear KE Ux KD; subst Uw; subst Uu))
 refine hK.out _ _ ⟨(az fB.out 0).trans rfl, (az fB.out 1).trans rfl, (az fB.out 2).trans rfl, (az fG.out 0).trans rfl, (az fG.out 1).trans rfl, (az fG.out 2).trans rfl⟩ (fun hHeld => ?_)
 clear hK K; refine xG (a' := ?_) ?_ ?_
 rotate_left
 · show Act.put _ (some 11) _ = _
   simp only [Act.put, List.setIfInBounds_toArray, List.set_cons_zero, List.set_cons_succ, dA, dB]; rfl
 refine gy (i := 5) (N := some 12) (v := ?_) (a' := ?_) #[true, true, true, true, true, true, false, false, false, true, false, false, false, false, false, false, false] rfl rfl (dX kN.out (by kernel_rfl)) (fun _ _ _ h => h) (Or.inl ⟨by rfl, ?_⟩) ?_ ?_
 rotate_left
 · intro w'
   go_simp
   with_reducible rfl
 rotate_left
 · simp only [Act.put, List.setIfInBounds_toArray, List.set_cons_zero, List.set_cons_succ, dA, dB]
   rfl
 refine gy (i := 6) (N := some 13) (v := ?_) (a' := ?_) #[true, true, true, true, true, true, true, false, false, true, false, false, false, false, false, false, false] rfl rfl (dX kN.out (by kernel_rfl)) (fun _ _ _ h => h) (Or.inl ⟨by rfl, ?_⟩) ?_ ?_
 rotate_left
 · intro w'
   go_simp
   with_reducible rfl
 rotate_left
 · simp only [Act.put, List.setIfInBounds_toArray, List.set_cons_zero, List.set_cons_succ, dA, dB]
   rfl
 refine gy (i := 7) (N := some 14) (v := ?_) (a' := ?_) #[true, true, true, true, true, true, true, true, false, true, false, false, false, false, false, false, false] rfl rfl (dX kN.out (by kernel_rfl)) (fun _ _ _ h => h) (Or.inl ⟨by rfl, ?_⟩) ?_ ?_
 rotate_left
 · intro w'
   go_simp
   with_reducible rfl
 rotate_left
 · simp only [Act.put, List.setIfInBounds_toArray, List.set_cons_zero, List.set_cons_succ, dA, dB]
   rfl
 refine Dx (i := 8) (N := some 15) #[true, true, true, true, true, true, true, true, true, true, false, false, false, false, false, false, false] rfl rfl (oK kN.out (by kernel_rfl)) (by decide) (fun K hK => ?_)
 refine xK Tryz.func151 (by kernel_rfl) rfl #[.pointer (some ⟨g, 0, none⟩), .agg #[.int .i64 t106, .int .i64 t107, .slice aaT t108.length Z_], .bool t111, .int .i64 t112] (by rfl) rfl rfl (by (try simp only [List.map_toArray, List.map_cons, List.map_nil]); first | done | rfl | (simp only [List.length_drop, List.length_take]; rfl)) ?_
 with_reducible refine (dH.calls g nU t106 t107 (fun k_ => some k_ = (.slice aaT t108.length Z_ : Value).ownBlock) (.slice aaT t108.length Z_) t108 t111 t112 t113 t114 t115 t118 w0 _ ?gm ?f_ ?pR A5.out).mono ?_
 (case gm => repeat (first | (with_reducible first | exact HI0.out | apply aI.alloc | apply aI.drewN | apply aI.drew | apply aI.iU | refine aI.far ?_ lQ.out _ | refine aI.far ?_ pI.out _ | refine aI.far ?_ xu.out _) | exact HI0.out))
 (case f_ => repeat (first | (with_reducible first | exact HB.out | apply ak | apply ah | apply au | refine aA ?_ (aI.ge HI0.out) | refine aA ?_ BA.out | refine aA ?_ EY.out | refine aA ?_ GZ.out) | exact HB.out))
 (case pR => exact Kd.pF (Kd.PW rfl Bo.out) HL.out)
 rintro e w15 ⟨alg, rfl, ho0, hi, hb, hkp⟩; refine ⟨_, rfl, ?_⟩
 have bF := aj.mk (hi); have dS := aj.mk (rZ (by (with_reducible repeat (first | refine aB ?_ _ | refine aF ?_ | refine aC ?_ _)); exact fB.out) hkp (fun hs_ => Or.elim hs_ (fun hs_ => (fun e_ => (Kd.Js Bo.out fB.out (by decide)) e_) hs_) (fun e_ => P_.out e_))); have eF := aj.mk (rZ (by (with_reducible repeat (first | refine aB ?_ _ | refine aF ?_ | refine aC ?_ _)); exact fG.out) hkp (fun hs_ => Or.elim hs_ (fun hs_ => (fun e_ => (Kd.Js Bo.out fG.out (by decide)) e_) hs_) (fun e_ => P8.out e_))); have fP := aj.mk (rZ (by (with_reducible repeat (first | refine aB ?_ _ | refine aF ?_ | refine aC ?_ _)); exact jh.out) hkp (fun hs_ => Or.elim hs_ (fun hs_ => (fun e_ => (Kd.Js Bo.out jh.out (by decide)) e_) hs_) (fun e_ => P7.out e_))); have jT := aj.mk (Kd.kZ (ok' := fun k_ => True) (Kd.PX (d := (Kd.int .i64)) (b := w0.heap.size) (b' := w.heap.size) (fun _ _ _ _ h_ => h_) ho0 (fun k_ e_ => Or.elim (ho0.1 k_ e_) (fun hs_ => (fun e_ => Kd.yl Bo.out k_ e_.symm) hs_) (fun Uc => Nat.le_trans (jw (w := w) (g := g) (row := none) (by repeat (first | (with_reducible first | exact HK.out | apply bC.pU | apply dL | apply dR | apply dM | refine bG ?_ mG.out _ | refine bG ?_ oG.out _ | refine bG ?_ qV.out _) | exact HK.out))) Uc))) (fun k_ J9 => trivial)); have ku := aj.mk (Kept.Ym (by repeat (first | (with_reducible first | exact HK.out | apply bC.pU | apply dL | apply dR | apply dM | refine bG ?_ mG.out _ | refine bG ?_ oG.out _ | refine bG ?_ qV.out _) | exact HK.out)) hkp (fun k_ hs_ => Or.elim hs_ (fun hs_ => (fun e_ => .inr (Kd.yl Bo.out k_ e_.symm)) hs_) (fun e_ => .inl e_))); have kU := aj.mk (hb); clear HI0; clear fB; clear fG; clear jh; clear HK; clear HB; clear Bo; have HI0 := bF; have fB := dS; have fG := eF; have jh := fP; have oO := jT; have HK := ku; have HB := kU; clear bF dS eF fP jT ku kU
 (try clear hb)
 (try clear hkp)
 (try clear ho0)
 refine hK.out _ _ ⟨(az fB.out 0).trans rfl, (az fB.out 1).trans rfl, (az fB.out 2).trans rfl, (az fG.out 0).trans rfl, (az fG.out 1).trans rfl, (az fG.out 2).trans rfl⟩ (fun hHeld => ?_)
 clear hK K; refine xG (a' := ?_) ?_ ?_
 rotate_left
 · show Act.put _ (some 15) _ = _
   simp only [Act.put, List.setIfInBounds_toArray, List.set_cons_zero, List.set_cons_succ, dA, dB]; rfl
 refine Dx (i := 10) (N := some 17) #[true, true, true, true, true, true, true, true, true, true, true, false, false, false, false, false, false] rfl rfl (oK kN.out (by kernel_rfl)) (by decide) (fun K hK => ?_)
 refine xK Tryz.func82 (by kernel_rfl) rfl #[.agg #[.int .i64 bH, .int .i64 bI, .slice eH bu.length eY]] (by rfl) rfl rfl (by (try simp only [List.map_toArray, List.map_cons, List.map_nil]); first | done | rfl | (simp only [List.length_drop, List.length_take]; rfl)) ?_
 with_reducible refine (jQ.calls bH bI _ _ bu t119 t120 t121 _ ?gm ?f_ A6.out).mono ?_
 (case gm => exact Kd.OL 0 sH.out (by repeat (first | (with_reducible first | exact HK.out | apply bC.pU | apply dL | apply dR | apply dM | refine bG ?_ mG.out _ | refine bG ?_ oG.out _ | refine bG ?_ qV.out _) | exact HK.out)) Ku)
 (case f_ => exact wo.out)
 rintro e w16 ⟨alf, rfl, ho0, hb⟩; refine ⟨_, rfl, ?_⟩
 have bF := aj.mk (Kd.EO (by (with_reducible repeat (first | apply Kd.gX | apply Kd.gW | apply Kd.iM)); exact oO.out) (Kd.yl ho0) hb); have dS := aj.mk (Kd.pF (Kd.Oz ho0 (Kd.Vh (by (with_reducible repeat (first | apply Kd.gX | apply Kd.gW | apply Kd.iM)); exact oO.out))) (jw (w := w) (g := g) (row := none) (by repeat (first | (with_reducible first | exact HK.out | apply bC.pU | apply dL | apply dR | apply dM | refine bG ?_ mG.out _ | refine bG ?_ oG.out _ | refine bG ?_ qV.out _) | exact HK.out)))); have eF := aj.mk (aI.below (by repeat (first | (with_reducible first | exact HI0.out | apply aI.alloc | apply aI.drewN | apply aI.drew | apply aI.iU | refine aI.far ?_ lQ.out _ | refine aI.far ?_ pI.out _ | refine aI.far ?_ xu.out _) | exact HI0.out)) hb); have fP := aj.mk (bz (g := lG) (o := .cells #[.int .i64 bH, .int .i64 bI, .slice eH bu.length eY] 29 (0, 0)) (by (with_reducible repeat (first | refine aB ?_ _ | refine aF ?_ | refine aC ?_ _)); exact fB.out) hb); have jT := aj.mk (bz (g := nR) (o := .cells #[.int .i64 mP, .int .i64 mO, .slice rE kR.length ug] 29 (0, 0)) (by (with_reducible repeat (first | refine aB ?_ _ | refine aF ?_ | refine aC ?_ _)); exact fG.out) hb); have ku := aj.mk (bz (g := gG) (o := .cells #[.int .i64 0, .int .i64 0, .slice none 0 0] 29 (0, 0)) (by (with_reducible repeat (first | refine aB ?_ _ | refine aF ?_ | refine aC ?_ _)); exact jh.out) hb); have kU := aj.mk (bC.trans (by repeat (first | (with_reducible first | exact HK.out | apply bC.pU | apply dL | apply dR | apply dM | refine bG ?_ mG.out _ | refine bG ?_ oG.out _ | refine bG ?_ qV.out _) | exact HK.out)) (bC.of_below hb g none) (.inl rfl)); have xH := aj.mk (aP (by repeat (first | (with_reducible first | exact HB.out | apply ak | apply ah | apply au | refine aA ?_ (aI.ge HI0.out) | refine aA ?_ BA.out | refine aA ?_ EY.out | refine aA ?_ GZ.out) | exact HB.out)) hb); clear oO; clear HI0; clear fB; clear fG; clear jh; clear HK; clear HB; have oO := bF; have uA := dS; have HI0 := eF; have fB := fP; have fG := jT; have jh := ku; have HK := kU; have HB := xH; clear bF dS eF fP jT ku kU xH
 (try clear hb)
 (try clear hb2)
 (try clear hk)
 (try clear hi)
 (try clear ho0)
 obtain ⟨aaS, Z9, ab7⟩ := Kd.jV oO.out
 (first | subst ab7 | (injection ab7 with KE Ux KD; have Uw := KE.symm; have Uu := KD.symm; clear KE Ux KD; subst Uw; subst Uu))
 obtain ⟨aaR, Xw, UG⟩ := Kd.jV uA.out
 (first | subst UG | (injection UG with KE Ux KD; have Uw := KE.symm; have Uu := KD.symm; clear KE Ux KD; subst Uw; subst Uu))
 refine hK.out _ _ ⟨(az fB.out 0).trans rfl, (az fB.out 1).trans rfl, (az fB.out 2).trans rfl, (az fG.out 0).trans rfl, (az fG.out 1).trans rfl, (az fG.out 2).trans rfl⟩ (fun hHeld => ?_)
 clear hK K; refine xG (a' := ?_) ?_ ?_
 rotate_left
 · show Act.put _ (some 17) _ = _
   simp only [Act.put, List.setIfInBounds_toArray, List.set_cons_zero, List.set_cons_succ, dA, dB]; rfl
 refine Dx (i := 11) (N := some 18) #[true, true, true, true, true, true, true, true, true, true, true, true, false, false, false, false, false] rfl rfl (oK kN.out (by kernel_rfl)) (by decide) (fun K hK => ?_)
 refine xK Tryz.func152 (by kernel_rfl) rfl #[.agg #[.int .i64 t113, .int .i64 t114, .slice aaS t115.length Z9], .agg #[.int .i64 t119, .int .i64 t120, .slice aaR t121.length Xw]] (by rfl) rfl rfl (by (try simp only [List.map_toArray, List.map_cons, List.map_nil]); first | done | rfl | (simp only [List.length_drop, List.length_take]; rfl)) ?_
 with_reducible refine (jm.calls t113 t114 _ _ t115 t119 t120 _ _ t121 t124 t125 t126 t129 t130 _ ?gm ?f_ ?pR ?uP A7.out).mono ?_
 (case gm => repeat (first | exact (Kd.jP oO.out).2.2 | (with_reducible refine Kd.gZ ?_ _) | (with_reducible refine Kd.gY ?_ _) | (with_reducible refine Kd.ji ?_)))
 (case f_ => exact (Kd.jP oO.out).2.1)
 (case pR => repeat (first | exact (Kd.jP uA.out).2.2 | (with_reducible refine Kd.gZ ?_ _) | (with_reducible refine Kd.gY ?_ _) | (with_reducible refine Kd.ji ?_)))
 (case uP => exact (Kd.jP uA.out).2.1)
 rintro e w19 ⟨v127, rfl, ho0, hb⟩; refine ⟨_, rfl, ?_⟩
 have bF := aj.mk (Kd.EO (by (with_reducible repeat (first | apply Kd.gX | apply Kd.gW | apply Kd.iM)); exact oO.out) (Kd.yl ho0) hb); have dS := aj.mk (Kd.EO (by (with_reducible repeat (first | apply Kd.gX | apply Kd.gW | apply Kd.iM)); exact uA.out) (Kd.yl ho0) hb); have eF := aj.mk (Kd.pF (Kd.Oz (Kd.Oz ho0 (Kd.Vh (by (with_reducible repeat (first | apply Kd.gX | apply Kd.gW | apply Kd.iM)); exact oO.out))) (Kd.Vh (by (with_reducible repeat (first | apply Kd.gX | apply Kd.gW | apply Kd.iM)); exact uA.out))) (jw (w := w) (g := g) (row := none) (by repeat (first | (with_reducible first | exact HK.out | apply bC.pU | apply dL | apply dR | apply dM | refine bG ?_ mG.out _ | refine bG ?_ oG.out _ | refine bG ?_ qV.out _) | exact HK.out)))); have fP := aj.mk (aI.below (by repeat (first | (with_reducible first | exact HI0.out | apply aI.alloc | apply aI.drewN | apply aI.drew | apply aI.iU | refine aI.far ?_ lQ.out _ | refine aI.far ?_ pI.out _ | refine aI.far ?_ xu.out _) | exact HI0.out)) hb); have jT := aj.mk (bz (g := lG) (o := .cells #[.int .i64 bH, .int .i64 bI, .slice eH bu.length eY] 29 (0, 0)) (by (with_reducible repeat (first | refine aB ?_ _ | refine aF ?_ | refine aC ?_ _)); exact fB.out) hb); have ku := aj.mk (bz (g := nR) (o := .cells #[.int .i64 mP, .int .i64 mO, .slice rE kR.length ug] 29 (0, 0)) (by (with_reducible repeat (first | refine aB ?_ _ | refine aF ?_ | refine aC ?_ _)); exact fG.out) hb); have kU := aj.mk (bz (g := gG) (o := .cells #[.int .i64 0, .int .i64 0, .slice none 0 0] 29 (0, 0)) (by (with_reducible repeat (first | refine aB ?_ _ | refine aF ?_ | refine aC ?_ _)); exact jh.out) hb); have xH := aj.mk (bC.trans (by repeat (first | (with_reducible first | exact HK.out | apply bC.pU | apply dL | apply dR | apply dM | refine bG ?_ mG.out _ | refine bG ?_ oG.out _ | refine bG ?_ qV.out _) | exact HK.out)) (bC.of_below hb g none) (.inl rfl)); have AA := aj.mk (aP (by repeat (first | (with_reducible first | exact HB.out | apply ak | apply ah | apply au | refine aA ?_ (aI.ge HI0.out) | refine aA ?_ BA.out | refine aA ?_ EY.out | refine aA ?_ GZ.out) | exact HB.out)) hb); clear oO; clear uA; clear HI0; clear fB; clear fG; clear jh; clear HK; clear HB; have oO := bF; have uA := dS; have Bl := eF; have HI0 := fP; have fB := jT; have fG := ku; have jh := kU; have HK := xH; have HB := AA; clear bF dS eF fP jT ku kU xH AA
 (try clear hb)
 (try clear hb2)
 (try clear hk)
 (try clear hi)
 (try clear ho0)
 obtain ⟨XZ, Rq, UF⟩ := Kd.jV Bl.out
 (first | subst UF | (injection UF with KE Ux KD; have Uw := KE.symm; have Uu := KD.symm; clear KE Ux KD; subst Uw; subst Uu))
 refine hK.out _ _ ⟨(az fB.out 0).trans rfl, (az fB.out 1).trans rfl, (az fB.out 2).trans rfl, (az fG.out 0).trans rfl, (az fG.out 1).trans rfl, (az fG.out 2).trans rfl⟩ (fun hHeld => ?_)
 clear hK K; refine xG (a' := ?_) ?_ ?_
 rotate_left
 · show Act.put _ (some 18) _ = _
   simp only [Act.put, List.setIfInBounds_toArray, List.set_cons_zero, List.set_cons_succ, dA, dB]; rfl
 refine gy (i := 12) (N := some 19) (v := ?_) (a' := ?_) #[true, true, true, true, true, true, true, true, true, true, true, true, true, false, false, false, false] rfl rfl (dX kN.out (by kernel_rfl)) (fun _ _ _ h => h) (Or.inl ⟨by rfl, ?_⟩) ?_ ?_
 rotate_left
 · intro w'
   go_simp
   with_reducible rfl
 rotate_left
 · simp only [Act.put, List.setIfInBounds_toArray, List.set_cons_zero, List.set_cons_succ, dA, dB]
   rfl
 refine gy (i := 13) (N := some 20) (v := ?_) (a' := ?_) #[true, true, true, true, true, true, true, true, true, true, true, true, true, true, false, false, false] rfl rfl (dX kN.out (by kernel_rfl)) (fun _ _ _ h => h) (Or.inl ⟨by rfl, ?_⟩) ?_ ?_
 rotate_left
 · intro w'
   go_simp
   with_reducible rfl
 rotate_left
 · simp only [Act.put, List.setIfInBounds_toArray, List.set_cons_zero, List.set_cons_succ, dA, dB]
   rfl
 refine gy (i := 14) (N := some 21) (v := ?_) (a' := ?_) #[true, true, true, true, true, true, true, true, true, true, true, true, true, true, true, false, false] rfl rfl (dX kN.out (by kernel_rfl)) (fun _ _ _ h => h) (Or.inl ⟨by rfl, ?_⟩) ?_ ?_
 rotate_left
 · intro w'
   go_simp
   with_reducible rfl
 rotate_left
 · simp only [Act.put, List.setIfInBounds_toArray, List.set_cons_zero, List.set_cons_succ, dA, dB]
   rfl
 refine Dx (i := 15) (N := some 22) #[true, true, true, true, true, true, true, true, true, true, true, true, true, true, true, true, false] rfl rfl (oK kN.out (by kernel_rfl)) (by decide) (fun K hK => ?_)
 refine xK Tryz.func151 (by kernel_rfl) rfl #[.pointer (some ⟨g, 0, none⟩), .agg #[.int .i64 t124, .int .i64 t125, .slice XZ t126.length Rq], .bool t129, .int .i64 t130] (by rfl) rfl rfl (by (try simp only [List.map_toArray, List.map_cons, List.map_nil]); first | done | rfl | (simp only [List.length_drop, List.length_take]; rfl)) ?_
 with_reducible refine (dH.calls g t118 t124 t125 (fun k_ => some k_ = (.slice XZ t126.length Rq : Value).ownBlock) (.slice XZ t126.length Rq) t126 t129 t130 t131 t132 t133 t136 w0 _ ?gm ?f_ ?pR A8.out).mono ?_
 (case gm => repeat (first | (with_reducible first | exact HI0.out | apply aI.alloc | apply aI.drewN | apply aI.drew | apply aI.iU | refine aI.far ?_ lQ.out _ | refine aI.far ?_ pI.out _ | refine aI.far ?_ xu.out _) | exact HI0.out))
 (case f_ => repeat (first | (with_reducible first | exact HB.out | apply ak | apply ah | apply au | refine aA ?_ (aI.ge HI0.out) | refine aA ?_ BA.out | refine aA ?_ EY.out | refine aA ?_ GZ.out) | exact HB.out))
 (case pR => exact Kd.pF (Kd.PW rfl Bl.out) HL.out)
 rintro e Yb ⟨abf, rfl, ho0, hi, hb, hkp⟩; refine ⟨_, rfl, ?_⟩
 have bF := aj.mk (hi); have dS := aj.mk (rZ (by (with_reducible repeat (first | refine aB ?_ _ | refine aF ?_ | refine aC ?_ _)); exact fB.out) hkp (fun hs_ => Or.elim hs_ (fun hs_ => (fun e_ => (Kd.Js Bl.out fB.out (by decide)) e_) hs_) (fun e_ => P_.out e_))); have eF := aj.mk (rZ (by (with_reducible repeat (first | refine aB ?_ _ | refine aF ?_ | refine aC ?_ _)); exact fG.out) hkp (fun hs_ => Or.elim hs_ (fun hs_ => (fun e_ => (Kd.Js Bl.out fG.out (by decide)) e_) hs_) (fun e_ => P8.out e_))); have fP := aj.mk (rZ (by (with_reducible repeat (first | refine aB ?_ _ | refine aF ?_ | refine aC ?_ _)); exact jh.out) hkp (fun hs_ => Or.elim hs_ (fun hs_ => (fun e_ => (Kd.Js Bl.out jh.out (by decide)) e_) hs_) (fun e_ => P7.out e_))); have jT := aj.mk (Kd.kZ (ok' := fun k_ => some k_ ≠ (.slice aaR t121.length Xw : Value).ownBlock ∧ some k_ ≠ (abf : Value).ownBlock) (Kd.PY ((aI.apart HI0.out oO.out (by decide))) hkp (fun k_ J9 hs_ => Or.elim hs_ (fun hs_ => (J9.1.2) hs_) (fun e_ => (J9.2) e_))) (fun k_ J9 => ⟨J9.1.1.1.2, fun e_ => Or.elim (ho0.1 k_ e_.symm) (fun hs_ => J9.2.1 (.inl hs_)) (fun Uc => Nat.not_le.2 J9.2.2 Uc)⟩)); have ku := aj.mk (Kd.kZ (ok' := fun k_ => some k_ ≠ (.slice aaS t115.length Z9 : Value).ownBlock ∧ some k_ ≠ (abf : Value).ownBlock) (Kd.PY ((aI.apart HI0.out uA.out (by decide))) hkp (fun k_ J9 hs_ => Or.elim hs_ (fun hs_ => (J9.1.2) hs_) (fun e_ => (J9.2) e_))) (fun k_ J9 => ⟨J9.1.1.1.2, fun e_ => Or.elim (ho0.1 k_ e_.symm) (fun hs_ => J9.2.1 (.inl hs_)) (fun Uc => Nat.not_le.2 J9.2.2 Uc)⟩)); have kU := aj.mk (Kd.kZ (ok' := fun k_ => some k_ ≠ (.slice aaS t115.length Z9 : Value).ownBlock ∧ some k_ ≠ (.slice aaR t121.length Xw : Value).ownBlock) (Kd.PX (d := (Kd.int .i64)) (b := w0.heap.size) (b' := w.heap.size) (fun _ _ _ _ h_ => h_) ho0 (fun k_ e_ => Or.elim (ho0.1 k_ e_) (fun hs_ => (fun e_ => Kd.yl Bl.out k_ e_.symm) hs_) (fun Uc => Nat.le_trans (jw (w := w) (g := g) (row := none) (by repeat (first | (with_reducible first | exact HK.out | apply bC.pU | apply dL | apply dR | apply dM | refine bG ?_ mG.out _ | refine bG ?_ oG.out _ | refine bG ?_ qV.out _) | exact HK.out))) Uc))) (fun k_ J9 => ⟨Or.elim J9 (fun hs_ => fun e_ => ((((aI.apart HI0.out oO.out (by decide))).1 k_ e_.symm).1.2) hs_) (fun Uc => (Kd.fresh' (Kd.Vh (by (with_reducible repeat (first | apply Kd.gX | apply Kd.gW | apply Kd.iM)); exact oO.out)) k_ Uc)), Or.elim J9 (fun hs_ => fun e_ => ((((aI.apart HI0.out uA.out (by decide))).1 k_ e_.symm).1.2) hs_) (fun Uc => (Kd.fresh' (Kd.Vh (by (with_reducible repeat (first | apply Kd.gX | apply Kd.gW | apply Kd.iM)); exact uA.out)) k_ Uc))⟩)); have xH := aj.mk (Kept.Ym (by repeat (first | (with_reducible first | exact HK.out | apply bC.pU | apply dL | apply dR | apply dM | refine bG ?_ mG.out _ | refine bG ?_ oG.out _ | refine bG ?_ qV.out _) | exact HK.out)) hkp (fun k_ hs_ => Or.elim hs_ (fun hs_ => (fun e_ => .inr (Kd.yl Bl.out k_ e_.symm)) hs_) (fun e_ => .inl e_))); have AA := aj.mk (hb); clear HI0; clear fB; clear fG; clear jh; clear oO; clear uA; clear HK; clear HB; clear Bl; have HI0 := bF; have fB := dS; have fG := eF; have jh := fP; have oO := jT; have uA := ku; have YL := kU; have HK := xH; have HB := AA; clear bF dS eF fP jT ku kU xH AA
 (try clear hb)
 (try clear hkp)
 (try clear ho0)
 obtain ⟨adV, acf, ab6⟩ := Kd.jV YL.out
 (first | subst ab6 | (injection ab6 with KE Ux KD; have Uw := KE.symm; have Uu := KD.symm; clear KE Ux KD; subst Uw; subst Uu))
 refine hK.out _ _ ⟨(az fB.out 0).trans rfl, (az fB.out 1).trans rfl, (az fB.out 2).trans rfl, (az fG.out 0).trans rfl, (az fG.out 1).trans rfl, (az fG.out 2).trans rfl⟩ (fun hHeld => ?_)
 clear hK K; refine xG (a' := ?_) ?_ ?_
 rotate_left
 · show Act.put _ (some 22) _ = _
   simp only [Act.put, List.setIfInBounds_toArray, List.set_cons_zero, List.set_cons_succ, dA, dB]; rfl
 refine Dx (i := 16) (N := none) #[true, true, true, true, true, true, true, true, true, true, true, true, true, true, true, true, true] rfl rfl (oK kN.out (by kernel_rfl)) (by decide) (fun K hK => ?_)
 have alF : Yb.cell? ⟨gG, 0, none⟩ = some (.int .i64 0) := (az jh.out 0).trans rfl; have ajB := ay jh.out 0; have ael := iR.out; have aek := iQ.out; have aes := Ad.out; have aer := Ac.out; have alE : Yb.cell? ⟨gG, 1, none⟩ = some (.int .i64 0) := (az jh.out 1).trans rfl; have ajA := ay jh.out 1; have aej := iR.out; have aei := iQ.out; have aep := Ad.out; have aeo := Ac.out; have alD : Yb.cell? ⟨gG, 2, none⟩ = some (.slice none 0 0) := (az jh.out 2).trans rfl; have ajz := ay jh.out 2; have aeh := iR.out; have aeg := iQ.out; have aen := Ad.out; have aem := Ac.out; refine Yi (w1 := ?_) (by rfl) rfl ?_ ?_
 rotate_left
 · go_simp
   rfl
 refine hK.out _ _ ⟨((cell_far (p := ⟨gG, _, none⟩) iR.out _).trans (((cell_far (p := ⟨gG, _, none⟩) iR.out _).trans (((cell_far (p := ⟨gG, _, none⟩) iR.out _).trans (hHeld.1)))))), ((cell_far (p := ⟨gG, _, none⟩) iR.out _).trans (((cell_far (p := ⟨gG, _, none⟩) iR.out _).trans (((cell_far (p := ⟨gG, _, none⟩) iR.out _).trans (hHeld.2.1)))))), ((cell_far (p := ⟨gG, _, none⟩) iR.out _).trans (((cell_far (p := ⟨gG, _, none⟩) iR.out _).trans (((cell_far (p := ⟨gG, _, none⟩) iR.out _).trans (hHeld.2.2.1)))))), ((cell_far (p := ⟨gG, _, none⟩) iQ.out _).trans (((cell_far (p := ⟨gG, _, none⟩) iQ.out _).trans (((cell_far (p := ⟨gG, _, none⟩) iQ.out _).trans (hHeld.2.2.2.1)))))), ((cell_far (p := ⟨gG, _, none⟩) iQ.out _).trans (((cell_far (p := ⟨gG, _, none⟩) iQ.out _).trans (((cell_far (p := ⟨gG, _, none⟩) iQ.out _).trans (hHeld.2.2.2.2.1)))))), ((cell_far (p := ⟨gG, _, none⟩) iQ.out _).trans (((cell_far (p := ⟨gG, _, none⟩) iQ.out _).trans (((cell_far (p := ⟨gG, _, none⟩) iQ.out _).trans (hHeld.2.2.2.2.2))))))⟩ (fun hHeld => ?_)
 clear hK K; refine PE (CG kN.out (by kernel_rfl)) ?_
 try go_wp2
 refine bodyPost_ret (results_cell_row rfl _ _ gG 29 #[.int .i64 t131, .int .i64 t132, .slice adV t133.length acf] (0, 0) _ rfl (by (with_reducible repeat (first | refine aB ?_ _ | refine aF ?_ | refine aC ?_ _)); refine gq (cs := #[.int .i64 t131, .int .i64 t132, .slice none 0 0]) ?_ 2 _ rfl; (with_reducible repeat (first | refine aB ?_ _ | refine aF ?_ | refine aC ?_ _)); refine gq (cs := #[.int .i64 t131, .int .i64 0, .slice none 0 0]) ?_ 1 _ rfl; (with_reducible repeat (first | refine aB ?_ _ | refine aF ?_ | refine aC ?_ _)); refine gq (cs := #[.int .i64 0, .int .i64 0, .slice none 0 0]) ?_ 0 _ rfl; (with_reducible repeat (first | refine aB ?_ _ | refine aF ?_ | refine aC ?_ _)); exact jh.out) Tryz.underlying29 rfl (by kernel_rfl)) rfl ?_
 exact ⟨_, by first | rfl | (simp [aO, aN] <;> rfl) | (simp [*, aO, aN] <;> rfl), by (with_reducible repeat (first | apply Kd.gX | apply Kd.gW | apply Kd.iM)); exact Kd.kZ (Kd.oD (p := ⟨gG, 2, none⟩) (Kd.oD (p := ⟨gG, 1, none⟩) (Kd.oD (p := ⟨gG, 0, none⟩) (Kd.xm YL.out jh.out (by decide)) (fun _ hk => hk.2) (.int .i64 t131)) (fun _ hk => hk.2) (.int .i64 t132)) (fun _ hk => hk.2) (.slice adV t133.length acf)) (fun _ hk => trivial), by repeat (first | (with_reducible first | exact HI0.out | apply aI.alloc | apply aI.drewN | apply aI.drew | apply aI.iU | refine aI.far ?_ lQ.out _ | refine aI.far ?_ pI.out _ | refine aI.far ?_ xu.out _) | exact HI0.out), by repeat (first | (with_reducible first | exact HB.out | apply ak | apply ah | apply au | refine aA ?_ (aI.ge HI0.out) | refine aA ?_ BA.out | refine aA ?_ EY.out | refine aA ?_ GZ.out) | exact HB.out), by repeat (first | (with_reducible first | exact HK.out | apply bC.pU | apply dL | apply dR | apply dM | refine bG ?_ mG.out _ | refine bG ?_ oG.out _ | refine bG ?_ qV.out _) | exact HK.out)⟩
end Go.Proofs.YtcfobekkchhbbaaGreat.PR

namespace Go.Proofs.YtcfobekkchhbbaaGreat.PR
open Go.RowKit Go.Proofs.YtcfobekkchhbbaaGreat.PQ Go.Proofs.af.aK Go.Proofs.af.aV Go.Proofs.af.aW
attribute [local go_sem] iH iF jJ jI gU gK iG iE
set_option linter.unusedVariables false
set_option linter.unusedSimpArgs false
def bV.l0 : Nat → Int → Int → Int → Int → List Int → Option (Int × Int × List Int)
 | 0, _, _, _, _, _ => none
 | k + 1, x14, x15, OV, wH, BP => if x15 < x14 then (if 0 ≤ (wrap64 ((wrap64 (x15 * wH)) + x15)) then (if (wrap64 ((wrap64 (x15 * wH)) + x15)) < (BP.length : Int) then (bV.l0 k x14 (wrap64 (x15 + 1)) OV wH (BP.set ((wrap64 ((wrap64 (x15 * wH)) + x15)) : Int).toNat (mx (rd BP (wrap64 ((wrap64 (x15 * wH)) + x15))) 0))) else (none)) else (none)) else (some (OV, wH, BP))
def bV.f (k : Nat) (aT : Int) (aZ : Int) (aX : List Int) : Option (Int × Int × List Int) := (pY.f aT aZ aX).bind fun yZ => (bV.l0 k yZ.1 0 yZ.1 yZ.2.1 yZ.2.2.1)
def bV.T5 : Bool × List (List Nat × List Nat) := (true, [([], []), ([0], [0]), ([], []), ([], []), ([3], [3]), ([2, 4], [2, 4]), ([], []), ([5, 6], [5, 6]), ([], []), ([8], [8]), ([], []), ([], []), ([11], [11]), ([10, 12], [10, 12]), ([], []), ([13, 14], [13, 14]), ([9, 15], [9, 15]), ([16], [16]), ([17], [17]), ([1, 7, 0, 1, 2, 3, 4, 5, 6, 7, 8, 9, 10, 11, 12, 13, 14, 15, 16, 17, 18], [1, 7]), ([19, 18, 0, 1, 2, 3, 4, 5, 6, 7, 8, 9, 10, 11, 12, 13, 14, 15, 16, 17, 18], [18, 19])])
def bV.B5 : List Nat := [0, 1, 0, 0, 8, 28, 0, 124, 0, 256, 0, 0, 2048, 7168, 0, 31744, 65280, 130816, 261888, 524287, 1048575]
theorem bV.agf : pV .any (opsOf Tryz.f155 5) = bV.T5 := by kernel_rfl
theorem bV.acy : sN bV.T5.2 bV.B5 = true := by kernel_rfl
theorem bV.calls (k : Nat) (aT : Int) (aZ : Int) (bK : Option Addr) (bJ : Nat) (aX : List Int) (r1 : Int) (r2 : Int) (r3 : List Int) (w : World) (iW : Kd.C (Kd.int .i64) w bK aX.length aX) (jy : aX.length ≤ bJ) (h : bV.f k aT aZ aX = some (r1, r2, r3)) :
 Calls Tryz.prog 155 #[.agg #[.int .i64 aT, .int .i64 aZ, .slice bK aX.length bJ]] w fun e w' => ∃ JB : Value, e = .returned (.agg #[.int .i64 r1, .int .i64 r2, JB]) ∧ Kd.R (Kd.int .i64) 22 w' w.heap.size (fun _ => True) JB r3 ∧ Below w.heap.size w w' := by
 have Ip := Tryz.underlying29; have mF := aj.mk iW; have oP := aj.mk jy; clear iW jy; have HB := aj.mk (Below.refl w.heap.size w); have H : ((pY.f aT aZ aX).bind fun yZ => (bV.l0 k yZ.1 0 yZ.1 yZ.2.1 yZ.2.2.1)) = some (r1, r2, r3) := h; clear h; replace H := Option.bind_eq_some_iff.mp H; obtain ⟨⟨t139, t140, t141, t144, t145⟩, YS, H⟩ := H; replace H : (bV.l0 k t139 0 t139 t140 t141) = some (r1, r2, r3) := H; have A2 := aj.mk YS; clear YS; have H' := aj.mk H; clear H
 go_enter Tryz.func155, Tryz.ntmps155
 go_wp2_with (first | ((with_reducible refine dG (N := 1) rfl ?_); refine cu ?hg (N := 1) ?hd (cs := #[.int .i64 aT, .int .i64 aZ, .slice bK aX.length bJ]) (t := 29) ?hr ?_; (case hd => rfl); (case hg => rfl); (case hr => first | (go_simp; done) | (go_simp; rfl)); intro oq hg w3 hbox hb; have bF := aj.mk (aP (by repeat (first | (with_reducible first | exact HB.out | apply ak | apply ah | apply au) | exact HB.out)) hb); have dS := aj.mk (hbox); have eF := aj.mk ((by rw [hg]; exact (bf (by repeat (first | (with_reducible first | exact HB.out | apply ak | apply ah | apply au) | exact HB.out))) : w.heap.size ≤ oq)); have fP := aj.mk ((by rw [hg]; exact (bf (by repeat (first | (with_reducible first | exact HB.out | apply ak | apply ah | apply au) | exact HB.out))) : w.heap.size ≤ oq)); clear HB; have HB := bF; have jD := dS; have akV := eF; have wu := fP; clear bF dS eF fP; clear hb hbox hg) | ((with_reducible refine dG (N := 2) rfl ?_); refine cu ?hg (N := 2) ?hd (cs := #[.int .i64 0, .int .i64 0, .slice none 0 0]) (t := 29) ?hr ?_; (case hd => rfl); (case hg => rfl); (case hr => first | (go_simp; done) | (go_simp; rfl)); intro nP hg w4 hbox hb; have bF := aj.mk (bz (g := oq) (o := .cells #[.int .i64 aT, .int .i64 aZ, .slice bK aX.length bJ] 29 (0, 0)) (by (with_reducible repeat (first | refine aB ?_ _ | refine aF ?_ | refine aC ?_ _)); exact jD.out) hb); have dS := aj.mk (aP (by repeat (first | (with_reducible first | exact HB.out | apply ak | apply ah | apply au | refine aA ?_ wu.out) | exact HB.out)) hb); have eF := aj.mk (hbox); have fP := aj.mk ((by rw [hg]; exact (bf (by repeat (first | (with_reducible first | exact HB.out | apply ak | apply ah | apply au | refine aA ?_ wu.out) | exact HB.out))) : w.heap.size ≤ nP)); have jT := aj.mk ((by rw [hg]; exact (bf (by repeat (first | (with_reducible first | exact HB.out | apply ak | apply ah | apply au | refine aA ?_ wu.out) | exact HB.out))) : w.heap.size ≤ nP)); have ku := aj.mk ((by rw [hg]; exact Nat.ne_of_lt (d_ (g := oq) (o := .cells #[.int .i64 aT, .int .i64 aZ, .slice bK aX.length bJ] 29 (0, 0)) (by (with_reducible repeat (first | refine aB ?_ _ | refine aF ?_ | refine aC ?_ _)); exact jD.out)) : oq ≠ nP)); have kU := aj.mk ((by rw [hg]; exact Nat.ne_of_gt (d_ (g := oq) (o := .cells #[.int .i64 aT, .int .i64 aZ, .slice bK aX.length bJ] 29 (0, 0)) (by (with_reducible repeat (first | refine aB ?_ _ | refine aF ?_ | refine aC ?_ _)); exact jD.out)) : nP ≠ oq)); clear jD; clear HB; have jD := bF; have HB := dS; have jX := eF; have akU := fP; have Bz := jT; have GU := ku; have GR := kU; clear bF dS eF fP jT ku kU; clear hb hbox hg; have alL := GU.out; have alI := GR.out; have vM : w4.cell? ⟨oq, 0, none⟩ = some (.int .i64 aT) := (az jD.out 0).trans rfl; have vK : w4.cell? ⟨oq, 1, none⟩ = some (.int .i64 aZ) := (az jD.out 1).trans rfl; have yf : w4.cell? ⟨oq, 2, none⟩ = some (.slice bK aX.length bJ) := (az jD.out 2).trans rfl; have vH := ay jD.out 0; have vG := ay jD.out 1; have yc := ay jD.out 2) | ((with_reducible refine aH (f := 188) rfl ?_); refine bg (some 9) rfl rfl Tryz.func188 (by kernel_rfl) rfl #[.agg #[.int .i64 aT, .int .i64 aZ, .slice bK aX.length bJ]] rfl (by (try simp only [List.map_toArray, List.map_cons, List.map_nil]); first | done | rfl | (simp only [List.length_drop, List.length_take]; rfl)) ?_; (with_reducible refine (pY.calls aT aZ _ _ aX t139 t140 t141 t144 t145 _ ?gm ?f_ A2.out).mono ?_); (case gm => repeat (first | exact (Kd.fQ mF.out HB.out) | (with_reducible refine Kd.gZ ?_ _) | (with_reducible refine Kd.gY ?_ _) | (with_reducible refine Kd.ji ?_))); (case f_ => exact oP.out); rintro e w7 ⟨ale, rfl, ho0, hb⟩; refine ⟨_, rfl, ?_⟩; have bF := aj.mk (Kd.pF ho0 (bf (by repeat (first | (with_reducible first | exact HB.out | apply ak | apply ah | apply au | refine aA ?_ wu.out | refine aA ?_ Bz.out) | exact HB.out)))); have dS := aj.mk (bz (g := oq) (o := .cells #[.int .i64 aT, .int .i64 aZ, .slice bK aX.length bJ] 29 (0, 0)) (by (with_reducible repeat (first | refine aB ?_ _ | refine aF ?_ | refine aC ?_ _)); exact jD.out) hb); have eF := aj.mk (bz (g := nP) (o := .cells #[.int .i64 0, .int .i64 0, .slice none 0 0] 29 (0, 0)) (by (with_reducible repeat (first | refine aB ?_ _ | refine aF ?_ | refine aC ?_ _)); exact jX.out) hb); have fP := aj.mk (aP (by repeat (first | (with_reducible first | exact HB.out | apply ak | apply ah | apply au | refine aA ?_ wu.out | refine aA ?_ Bz.out) | exact HB.out)) hb); clear jD; clear jX; clear HB; have Le := bF; have jD := dS; have jX := eF; have HB := fP; clear bF dS eF fP; (try clear hb); (try clear hb2); (try clear hk); (try clear hi); (try clear ho0)) | ((with_reducible refine dG (N := 3) rfl ?_); refine cu ?hg (N := 3) ?hd (cs := #[.int .i64 0, .int .i64 0, .slice none 0 0]) (t := 29) ?hr ?_; (case hd => rfl); (case hg => rfl); (case hr => first | (go_simp; done) | (go_simp; rfl)); intro nI hg w8 hbox hb; have bF := aj.mk (Kd.pG (by (with_reducible repeat (first | apply Kd.gX | apply Kd.gW | apply Kd.iM)); exact Le.out) hb); have dS := aj.mk (bz (g := oq) (o := .cells #[.int .i64 aT, .int .i64 aZ, .slice bK aX.length bJ] 29 (0, 0)) (by (with_reducible repeat (first | refine aB ?_ _ | refine aF ?_ | refine aC ?_ _)); exact jD.out) hb); have eF := aj.mk (bz (g := nP) (o := .cells #[.int .i64 0, .int .i64 0, .slice none 0 0] 29 (0, 0)) (by (with_reducible repeat (first | refine aB ?_ _ | refine aF ?_ | refine aC ?_ _)); exact jX.out) hb); have fP := aj.mk (aP (by repeat (first | (with_reducible first | exact HB.out | apply ak | apply ah | apply au | refine aA ?_ wu.out | refine aA ?_ Bz.out) | exact HB.out)) hb); have jT := aj.mk (hbox); have ku := aj.mk ((by rw [hg]; exact (bf (by repeat (first | (with_reducible first | exact HB.out | apply ak | apply ah | apply au | refine aA ?_ wu.out | refine aA ?_ Bz.out) | exact HB.out))) : w.heap.size ≤ nI)); have kU := aj.mk ((by rw [hg]; exact (bf (by repeat (first | (with_reducible first | exact HB.out | apply ak | apply ah | apply au | refine aA ?_ wu.out | refine aA ?_ Bz.out) | exact HB.out))) : w.heap.size ≤ nI)); have xH := aj.mk ((by rw [hg]; exact Nat.ne_of_lt (d_ (g := oq) (o := .cells #[.int .i64 aT, .int .i64 aZ, .slice bK aX.length bJ] 29 (0, 0)) (by (with_reducible repeat (first | refine aB ?_ _ | refine aF ?_ | refine aC ?_ _)); exact jD.out)) : oq ≠ nI)); have AA := aj.mk ((by rw [hg]; exact Nat.ne_of_gt (d_ (g := oq) (o := .cells #[.int .i64 aT, .int .i64 aZ, .slice bK aX.length bJ] 29 (0, 0)) (by (with_reducible repeat (first | refine aB ?_ _ | refine aF ?_ | refine aC ?_ _)); exact jD.out)) : nI ≠ oq)); have Pj := aj.mk ((by rw [hg]; exact Nat.ne_of_lt (d_ (g := nP) (o := .cells #[.int .i64 0, .int .i64 0, .slice none 0 0] 29 (0, 0)) (by (with_reducible repeat (first | refine aB ?_ _ | refine aF ?_ | refine aC ?_ _)); exact jX.out)) : nP ≠ nI)); have yN := aj.mk ((by rw [hg]; exact Nat.ne_of_gt (d_ (g := nP) (o := .cells #[.int .i64 0, .int .i64 0, .slice none 0 0] 29 (0, 0)) (by (with_reducible repeat (first | refine aB ?_ _ | refine aF ?_ | refine aC ?_ _)); exact jX.out)) : nI ≠ nP)); clear Le; clear jD; clear jX; clear HB; have Le := bF; have jD := dS; have jX := eF; have HB := fP; have jW := jT; have akT := ku; have Vs := kU; have sG := xH; have GM := AA; have sF := Pj; have GK := yN; clear bF dS eF fP jT ku kU xH AA Pj yN; clear hb hbox hg; have alK := GM.out; have alH := sG.out; have abU := GK.out; have abR := sF.out; have Cm : w8.cell? ⟨nI, 0, none⟩ = some (.int .i64 0) := (az jW.out 0).trans rfl; have Cj : w8.cell? ⟨nI, 1, none⟩ = some (.int .i64 0) := (az jW.out 1).trans rfl; have Ci : w8.cell? ⟨nI, 2, none⟩ = some (.slice none 0 0) := (az jW.out 2).trans rfl; have Ce := ay jW.out 0; have Cc := ay jW.out 1; have Cb := ay jW.out 2; obtain ⟨aaU, aab, ZZ⟩ := Kd.jV Le.out; subst ZZ))
 go_loopg [15] k (fun kq v15 w' => ∃ (jr : Int) (fD : List Int) (u147002 : Value), v15 = .int .i64 jr ∧ aj (bV.l0 kq t139 jr t139 t140 fD = some (r1, r2, r3)) ∧ aj (kq ≤ k) ∧ aj (Kd.R (Kd.int .i64) 22 w' w.heap.size (fun _ => True) u147002 fD) ∧ aj (w'.heap[oq]? = some (.cells #[.int .i64 aT, .int .i64 aZ, (.slice bK aX.length bJ)] 29 (0, 0))) ∧ aj (w'.heap[nP]? = some (.cells #[.int .i64 0, .int .i64 0, (.slice none 0 0)] 29 (0, 0))) ∧ aj (w'.heap[nI]? = some (.cells #[.int .i64 t139, .int .i64 t140, u147002] 29 (0, 0))) ∧ aj (Below w.heap.size w w'))
 case atStart => exact ⟨(0), (t141), (.slice aaU t141.length aab), (by first | rfl | (simp; done) | (simp [*]; done)), H', ⟨Nat.le_refl _⟩, ⟨by (with_reducible repeat (first | apply Kd.gX | apply Kd.gW | apply Kd.iM)); exact Kd.kZ (Kd.oD (p := ⟨nI, 2, none⟩) (Kd.oD (p := ⟨nI, 1, none⟩) (Kd.oD (p := ⟨nI, 0, none⟩) (Kd.xm Le.out jW.out (by decide)) (fun _ hk => hk.2) (.int .i64 t139)) (fun _ hk => hk.2) (.int .i64 t140)) (fun _ hk => hk.2) (.slice aaU t141.length aab)) (fun _ hk => trivial)⟩, ⟨by (with_reducible repeat (first | refine aB ?_ _ | refine aF ?_ | refine aC ?_ _)); refine lN ?_ sG.out _; (with_reducible repeat (first | refine aB ?_ _ | refine aF ?_ | refine aC ?_ _)); refine lN ?_ sG.out _; (with_reducible repeat (first | refine aB ?_ _ | refine aF ?_ | refine aC ?_ _)); refine lN ?_ sG.out _; (with_reducible repeat (first | refine aB ?_ _ | refine aF ?_ | refine aC ?_ _)); exact jD.out⟩, ⟨by (with_reducible repeat (first | refine aB ?_ _ | refine aF ?_ | refine aC ?_ _)); refine lN ?_ sF.out _; (with_reducible repeat (first | refine aB ?_ _ | refine aF ?_ | refine aC ?_ _)); refine lN ?_ sF.out _; (with_reducible repeat (first | refine aB ?_ _ | refine aF ?_ | refine aC ?_ _)); refine lN ?_ sF.out _; (with_reducible repeat (first | refine aB ?_ _ | refine aF ?_ | refine aC ?_ _)); exact jX.out⟩, ⟨by (with_reducible repeat (first | refine aB ?_ _ | refine aF ?_ | refine aC ?_ _)); refine gq (cs := #[.int .i64 t139, .int .i64 t140, .slice none 0 0]) ?_ 2 _ rfl; (with_reducible repeat (first | refine aB ?_ _ | refine aF ?_ | refine aC ?_ _)); refine gq (cs := #[.int .i64 t139, .int .i64 0, .slice none 0 0]) ?_ 1 _ rfl; (with_reducible repeat (first | refine aB ?_ _ | refine aF ?_ | refine aC ?_ _)); refine gq (cs := #[.int .i64 0, .int .i64 0, .slice none 0 0]) ?_ 0 _ rfl; (with_reducible repeat (first | refine aB ?_ _ | refine aF ?_ | refine aC ?_ _)); exact jW.out⟩, ⟨by repeat (first | (with_reducible first | exact HB.out | apply ak | apply ah | apply au | refine aA ?_ wu.out | refine aA ?_ Bz.out | refine aA ?_ Vs.out) | exact HB.out)⟩⟩
 case round =>
  clear H'; (try clear c1); (try clear p2); (try clear c5); (try clear c9); (try clear c10); (try clear Cm); (try clear Cj); (try clear Ci); (try clear vM); (try clear vK); (try clear yf); (try clear Ce); (try clear Cc); (try clear Cb); (try clear vH); (try clear vG); (try clear yc); obtain ⟨jr, fD, u147002, rfl, HA, zA, iy, jD, jX, jW, HB⟩ := hrel
  cases gk with
  | zero => exact absurd HA.out (by simp [bV.l0])
  | succ k1 =>
    have H := HA.out; clear HA; simp only [bV.l0] at H
    by_cases c13 : jr < t139
    · rw [if_pos c13] at H
      have xQ : decide (jr < t139) = true := decide_eq_true c13; clear c13
      obtain ⟨qg, Ue⟩ : ∃ j_ : Int, (wrap64 ((wrap64 (jr * t140)) + jr)) = j_ := ⟨_, rfl⟩
      replace H : (if 0 ≤ (qg) then (if (qg) < (fD.length : Int) then (bV.l0 k1 t139 (wrap64 (jr + 1)) t139 t140 (fD.set ((qg) : Int).toNat (mx (rd fD (qg)) 0))) else (none)) else (none)) = some (r1, r2, r3) := by first | (rw [Ue] at H; exact H) | (simp only [Ue] at H ⊢; exact H)
      have agY : (IntKind.i64.wrap ((wrap64 (jr * t140)) + jr)) = qg := (dA _).trans Ue
      by_cases c15 : 0 ≤ (qg)
      · rw [if_pos c15] at H
        have UY : decide (0 ≤ (qg)) = true := decide_eq_true c15; clear c15
        by_cases c16 : (qg) < (fD.length : Int)
        · rw [if_pos c16] at H
          have Gv : decide ((qg) < (fD.length : Int)) = true := decide_eq_true c16; clear c16
          obtain ⟨jF, qh⟩ : ∃ j_ : Int, (mx (rd fD (qg)) 0) = j_ := ⟨_, rfl⟩
          replace H : (bV.l0 k1 t139 (wrap64 (jr + 1)) t139 t140 (fD.set ((qg) : Int).toNat (jF))) = some (r1, r2, r3) := by first | (rw [qh] at H; exact H) | (simp only [qh] at H ⊢; exact H)
          have ZC : (if (rd fD (qg)) < 0 then 0 else (rd fD (qg))) = jF := qh
          obtain ⟨abe, J6⟩ : ∃ y_ : List Int, y_ = (fD.set ((qg) : Int).toNat (jF)) := ⟨_, rfl⟩
          replace H : (bV.l0 k1 t139 (wrap64 (jr + 1)) t139 t140 abe) = some (r1, r2, r3) := by first | (rw [J6]; with_reducible exact H) | (have H2_ := (Option.bind_some _ _).symm.trans H; rw [J6]; with_reducible exact H2_) | (have H2_ := (Option.bind_some _ _).symm.trans H; with_reducible exact H2_) | with_reducible exact H | (rw [J6]; exact H) | exact H
          have adh := aj.mk J6; clear J6; have H' := aj.mk H; clear H
          try go_wp2
          have bF := aj.mk (Kd.iM iy.out); have dS := aj.mk (aF jD.out); have eF := aj.mk (aF jX.out); have fP := aj.mk (aF jW.out); have jT := aj.mk (au HB.out); clear iy; clear jD; clear jX; clear jW; clear HB; have iy := bF; have jD := dS; have jX := eF; have jW := fP; have HB := jT; clear bF dS eF fP jT; obtain ⟨XZ, Rq, UF⟩ := Kd.jV iy.out
          (first | subst UF | (injection UF with KE Ux KD; have Uw := KE.symm; have Uu := KD.symm; clear KE Ux KD; subst Uw; subst Uu))
          have Zc : 0 ≤ ((qg) : Int) := of_decide_eq_true (by first | (with_reducible assumption) | assumption); have Za : (qg) < (fD.length : Int) := of_decide_eq_true (by first | (with_reducible assumption) | assumption); obtain ⟨ajQ, ahC, Io⟩ := Kd.iK (Kd.jP iy.out).2.2 (qg) Zc Za
          cases ahC
          replace Zc := eq_true Zc; replace Za := eq_true Za; have p18 : 0 ≤ ((qg) : Int) := of_decide_eq_true (by first | (with_reducible assumption) | assumption); have q18 : ((qg) : Int) < ((fD.length : Int) : Int) := of_decide_eq_true (by first | (with_reducible assumption) | assumption); obtain ⟨ZU, Xw, UG, ab2, ahr, ams, adG⟩ := Kd.aaq iy.out (by omega)
          (first | cases UG | (injection UG with ea_ en_ ec_; (first | subst ea_ | (injection ea_ with ea_; subst ea_)); subst ec_; clear en_))
          have aiJ := aj.mk ab2; have aiI := aj.mk adG; clear ab2 ahr adG
          (first | simp only [add_plain] at Io | skip)
          obtain ⟨Zt, ZL⟩ := Kd.XF 0 iy.out ((qg) : Int) p18 q18; replace p18 := eq_true p18; replace q18 := eq_true q18; have aaI := Kd.aao iy.out ((qg) : Int) jF; rw [← adh.out] at aaI; have adC := aj.mk aaI; clear aaI; refine Hy (n := 21) (S := fun w' => w'.cell? ⟨nI, 0, none⟩ = some (.int .i64 t139) ∧ w'.cell? ⟨nI, 1, none⟩ = some (.int .i64 t140) ∧ w'.cell? ⟨nI, 2, none⟩ = some (.slice (some ⟨ZU, 0, none⟩) fD.length Rq) ∧ w'.cell? ⟨ZU, ((qg)).toNat, none⟩ = some (.int .i64 (rd fD (qg)))) (ds := [20]) #[false, false, false, false, false, false, false, false, false, false, false, false, false, false, false, false, false, false, false, false, false] (by kernel_rfl) rfl rfl ⟨(az jW.out 0).trans rfl, (az jW.out 1).trans rfl, (az jW.out 2).trans rfl, Io⟩ (fun hHeld => ?_); refine wI bV.agf bV.acy (fun kN Ld => ?_)
          generalize wr.drew = w19 at iy jD jX jW HB aiI adC ZL Io Zt hHeld ⊢; refine gy (i := 0) (N := some 18) (v := ?_) (a' := ?_) #[true, false, false, false, false, false, false, false, false, false, false, false, false, false, false, false, false, false, false, false, false] rfl rfl (dX kN.out (by kernel_rfl)) (fun _ _ _ h => h) (Or.inl ⟨by rfl, ?_⟩) ?_ ?_
          rotate_left
          · intro w'
            go_simp
            with_reducible rfl
          rotate_left
          · simp only [Act.put, List.setIfInBounds_toArray, List.set_cons_zero, List.set_cons_succ, dA, dB]
            rfl
          refine gy (i := 2) (N := some 20) (v := ?_) (a' := ?_) #[true, false, true, false, false, false, false, false, false, false, false, false, false, false, false, false, false, false, false, false, false] rfl rfl (dX kN.out (by kernel_rfl)) (fun _ _ _ h => h) (Or.inl ⟨by rfl, ?_⟩) ?_ ?_
          rotate_left
          · intro w'
            go_simp
            with_reducible rfl
          rotate_left
          · simp only [Act.put, List.setIfInBounds_toArray, List.set_cons_zero, List.set_cons_succ, dA, dB]
            rfl
          refine gy (i := 3) (N := some 21) (v := ?_) (a' := ?_) #[true, false, true, true, false, false, false, false, false, false, false, false, false, false, false, false, false, false, false, false, false] rfl rfl (dX kN.out (by kernel_rfl)) (fun _ _ _ h => h) (Or.inl ⟨by rfl, ?_⟩) ?_ ?_
          rotate_left
          · intro w'
            go_simp
            with_reducible rfl
          rotate_left
          · simp only [Act.put, List.setIfInBounds_toArray, List.set_cons_zero, List.set_cons_succ, dA, dB]
            rfl
          refine gy (i := 6) (N := some 24) (v := ?_) (a' := ?_) #[true, false, true, true, false, false, true, false, false, false, false, false, false, false, false, false, false, false, false, false, false] rfl rfl (dX kN.out (by kernel_rfl)) (fun _ _ _ h => h) (Or.inl ⟨by rfl, ?_⟩) ?_ ?_
          rotate_left
          · intro w'
            go_simp
            with_reducible rfl
          rotate_left
          · simp only [Act.put, List.setIfInBounds_toArray, List.set_cons_zero, List.set_cons_succ, dA, dB]
            rfl
          refine gy (i := 8) (N := some 26) (v := ?_) (a' := ?_) #[true, false, true, true, false, false, true, false, true, false, false, false, false, false, false, false, false, false, false, false, false] rfl rfl (dX kN.out (by kernel_rfl)) (fun _ _ _ h => h) (Or.inl ⟨by rfl, ?_⟩) ?_ ?_
          rotate_left
          · intro w'
            go_simp
            with_reducible rfl
          rotate_left
          · simp only [Act.put, List.setIfInBounds_toArray, List.set_cons_zero, List.set_cons_succ, dA, dB]
            rfl
          refine gy (i := 10) (N := some 28) (v := ?_) (a' := ?_) #[true, false, true, true, false, false, true, false, true, false, true, false, false, false, false, false, false, false, false, false, false] rfl rfl (dX kN.out (by kernel_rfl)) (fun _ _ _ h => h) (Or.inl ⟨by rfl, ?_⟩) ?_ ?_
          rotate_left
          · intro w'
            go_simp
            with_reducible rfl
          rotate_left
          · simp only [Act.put, List.setIfInBounds_toArray, List.set_cons_zero, List.set_cons_succ, dA, dB]
            rfl
          refine gy (i := 11) (N := some 29) (v := ?_) (a' := ?_) #[true, false, true, true, false, false, true, false, true, false, true, true, false, false, false, false, false, false, false, false, false] rfl rfl (dX kN.out (by kernel_rfl)) (fun _ _ _ h => h) (Or.inl ⟨by rfl, ?_⟩) ?_ ?_
          rotate_left
          · intro w'
            go_simp
            with_reducible rfl
          rotate_left
          · simp only [Act.put, List.setIfInBounds_toArray, List.set_cons_zero, List.set_cons_succ, dA, dB]
            rfl
          refine gy (i := 14) (N := some 32) (v := ?_) (a' := ?_) #[true, false, true, true, false, false, true, false, true, false, true, true, false, false, true, false, false, false, false, false, false] rfl rfl (dX kN.out (by kernel_rfl)) (fun _ _ _ h => h) (Or.inl ⟨by rfl, ?_⟩) ?_ ?_
          rotate_left
          · intro w'
            go_simp
            with_reducible rfl
          rotate_left
          · simp only [Act.put, List.setIfInBounds_toArray, List.set_cons_zero, List.set_cons_succ, dA, dB]
            rfl
          refine qB (i := 1) (N := some 19) (v := ?_) (a' := ?_) #[true, true, true, true, false, false, true, false, true, false, true, true, false, false, true, false, false, false, false, false, false] rfl rfl (iT kN.out Ld.out (by kernel_rfl)) (fun _ _ _ h => h) (Or.inl ⟨by rfl, ?_⟩) hHeld ?_ ?_
          rotate_left
          · rintro w' ⟨s0, s1, s2, s3⟩
            go_simp
            with_reducible rfl
          rotate_left
          · simp only [Act.put, List.setIfInBounds_toArray, List.set_cons_zero, List.set_cons_succ, dA, dB]
            rfl
          refine qB (i := 4) (N := some 22) (v := ?_) (a' := ?_) #[true, true, true, true, true, false, true, false, true, false, true, true, false, false, true, false, false, false, false, false, false] rfl rfl (iT kN.out Ld.out (by kernel_rfl)) (fun _ _ _ h => h) (Or.inl ⟨by rfl, ?_⟩) hHeld ?_ ?_
          rotate_left
          · rintro w' ⟨s0, s1, s2, s3⟩
            go_simp
            with_reducible rfl
          rotate_left
          · simp only [Act.put, List.setIfInBounds_toArray, List.set_cons_zero, List.set_cons_succ, dA, dB]
            rfl
          refine gy (i := 5) (N := some 23) (v := ?_) (a' := ?_) #[true, true, true, true, true, true, true, false, true, false, true, true, false, false, true, false, false, false, false, false, false] rfl rfl (dX kN.out (by kernel_rfl)) (fun _ _ _ h => h) (Or.inl ⟨by rfl, ?_⟩) ?_ ?_
          rotate_left
          · intro w'
            go_simp
            with_reducible rfl
          rotate_left
          · simp only [Act.put, List.setIfInBounds_toArray, List.set_cons_zero, List.set_cons_succ, dA, dB]
            rfl
          refine gy (i := 7) (N := some 25) (v := ?_) (a' := ?_) #[true, true, true, true, true, true, true, true, true, false, true, true, false, false, true, false, false, false, false, false, false] rfl rfl (dX kN.out (by kernel_rfl)) (fun _ _ _ h => h) (Or.inl ⟨by rfl, ?_⟩) ?_ ?_
          rotate_left
          · intro w'
            go_simp
            with_reducible rfl
          rotate_left
          · simp only [Act.put, List.setIfInBounds_toArray, List.set_cons_zero, List.set_cons_succ, dA, dB]
            rfl
          refine qB (i := 9) (N := some 27) (v := ?_) (a' := ?_) #[true, true, true, true, true, true, true, true, true, true, true, true, false, false, true, false, false, false, false, false, false] rfl rfl (iT kN.out Ld.out (by kernel_rfl)) (fun _ _ _ h => h) (Or.inl ⟨by rfl, ?_⟩) hHeld ?_ ?_
          rotate_left
          · rintro w' ⟨s0, s1, s2, s3⟩
            go_simp
            with_reducible rfl
          rotate_left
          · simp only [Act.put, List.setIfInBounds_toArray, List.set_cons_zero, List.set_cons_succ, dA, dB]
            rfl
          refine qB (i := 12) (N := some 30) (v := ?_) (a' := ?_) #[true, true, true, true, true, true, true, true, true, true, true, true, true, false, true, false, false, false, false, false, false] rfl rfl (iT kN.out Ld.out (by kernel_rfl)) (fun _ _ _ h => h) (Or.inl ⟨by rfl, ?_⟩) hHeld ?_ ?_
          rotate_left
          · rintro w' ⟨s0, s1, s2, s3⟩
            go_simp
            with_reducible rfl
          rotate_left
          · simp only [Act.put, List.setIfInBounds_toArray, List.set_cons_zero, List.set_cons_succ, dA, dB]
            rfl
          refine gy (i := 13) (N := some 31) (v := ?_) (a' := ?_) #[true, true, true, true, true, true, true, true, true, true, true, true, true, true, true, false, false, false, false, false, false] rfl rfl (dX kN.out (by kernel_rfl)) (fun _ _ _ h => h) (Or.inl ⟨by rfl, ?_⟩) ?_ ?_
          rotate_left
          · intro w'
            go_simp
            with_reducible rfl
          rotate_left
          · simp only [Act.put, List.setIfInBounds_toArray, List.set_cons_zero, List.set_cons_succ, dA, dB]
            rfl
          refine gy (i := 15) (N := some 33) (v := ?_) (a' := ?_) #[true, true, true, true, true, true, true, true, true, true, true, true, true, true, true, true, false, false, false, false, false] rfl rfl (dX kN.out (by kernel_rfl)) (fun _ _ _ h => h) (Or.inl ⟨by rfl, ?_⟩) ?_ ?_
          rotate_left
          · intro w'
            go_simp
            with_reducible rfl
          rotate_left
          · simp only [Act.put, List.setIfInBounds_toArray, List.set_cons_zero, List.set_cons_succ, dA, dB]
            rfl
          refine gy (i := 16) (N := some 34) (v := ?_) (a' := ?_) #[true, true, true, true, true, true, true, true, true, true, true, true, true, true, true, true, true, false, false, false, false] rfl rfl (dX kN.out (by kernel_rfl)) (fun _ _ _ h => h) (Or.inl ⟨by rfl, ?_⟩) ?_ ?_
          rotate_left
          · intro w'
            go_simp
            with_reducible rfl
          rotate_left
          · simp only [Act.put, List.setIfInBounds_toArray, List.set_cons_zero, List.set_cons_succ, dA, dB]
            rfl
          refine qB (i := 17) (N := some 35) (v := ?_) (a' := ?_) #[true, true, true, true, true, true, true, true, true, true, true, true, true, true, true, true, true, true, false, false, false] rfl rfl (iT kN.out Ld.out (by kernel_rfl)) (fun _ _ _ h => h) (Or.inl ⟨by rfl, ?_⟩) hHeld ?_ ?_
          rotate_left
          · rintro w' ⟨s0, s1, s2, s3⟩
            go_simp
            with_reducible rfl
          rotate_left
          · simp only [Act.put, List.setIfInBounds_toArray, List.set_cons_zero, List.set_cons_succ, dA, dB]
            rfl
          refine gy (i := 18) (N := some 36) (v := ?_) (a' := ?_) #[true, true, true, true, true, true, true, true, true, true, true, true, true, true, true, true, true, true, true, false, false] rfl rfl (dX kN.out (by kernel_rfl)) (fun _ _ _ h => h) (Or.inl ⟨by rfl, ?_⟩) ?_ ?_
          rotate_left
          · intro w'
            go_simp
            with_reducible rfl
          rotate_left
          · simp only [Act.put, List.setIfInBounds_toArray, List.set_cons_zero, List.set_cons_succ, dA, dB]
            rfl
          refine gy (i := 19) (N := some 37) (v := ?_) (a' := ?_) #[true, true, true, true, true, true, true, true, true, true, true, true, true, true, true, true, true, true, true, true, false] rfl rfl (dX kN.out (by kernel_rfl)) (fun _ _ _ h => h) (Or.inl ⟨by rfl, ?_⟩) ?_ ?_
          rotate_left
          · intro w'
            go_simp
            with_reducible rfl
          rotate_left
          · simp only [Act.put, List.setIfInBounds_toArray, List.set_cons_zero, List.set_cons_succ, dA, dB]
            rfl
          refine abB (i := 20) (N := none) #[true, true, true, true, true, true, true, true, true, true, true, true, true, true, true, true, true, true, true, true, true] rfl rfl (oK kN.out (by kernel_rfl)) (by decide) (fun K hK => ?_)
          refine Yi (w1 := ?_) (by rfl) rfl ?_ ?_
          rotate_left
          · go_simp
            rfl
          refine hK.out _ _ ?_
          clear hK K; refine PE (CG kN.out (by kernel_rfl)) ?_
          try go_wp2
          go_roundg k1
          case measure => have := zA.out; omega
          case rel => exact ⟨(wrap64 (jr + 1)), (abe), (.slice (some ⟨ZU, 0, none⟩) fD.length Rq), (by first | rfl | (simp; done) | (simp [*]; done)), H', ⟨by have := zA.out; omega⟩, ⟨by (with_reducible repeat (first | apply Kd.gX | apply Kd.gW | apply Kd.iM)); exact adC.out⟩, ⟨by (with_reducible repeat (first | refine aB ?_ _ | refine aF ?_ | refine aC ?_ _)); refine lN ?_ (by have h_ := Kd.Js iy.out jD.out (by decide); intro e_; exact h_ (by rw [e_]; rfl)) _; (with_reducible repeat (first | refine aB ?_ _ | refine aF ?_ | refine aC ?_ _)); exact jD.out⟩, ⟨by (with_reducible repeat (first | refine aB ?_ _ | refine aF ?_ | refine aC ?_ _)); refine lN ?_ (by have h_ := Kd.Js iy.out jX.out (by decide); intro e_; exact h_ (by rw [e_]; rfl)) _; (with_reducible repeat (first | refine aB ?_ _ | refine aF ?_ | refine aC ?_ _)); exact jX.out⟩, ⟨by (with_reducible repeat (first | refine aB ?_ _ | refine aF ?_ | refine aC ?_ _)); refine lN ?_ (by have h_ := Kd.Js iy.out jW.out (by decide); intro e_; exact h_ (by rw [e_]; rfl)) _; (with_reducible repeat (first | refine aB ?_ _ | refine aF ?_ | refine aC ?_ _)); exact jW.out⟩, ⟨by repeat (first | (with_reducible first | exact HB.out | apply ak | apply ah | apply au | refine aA ?_ aiJ.out | refine aA ?_ wu.out | refine aA ?_ Bz.out | refine aA ?_ Vs.out) | exact HB.out)⟩⟩
        · rw [if_neg c16] at H
          exact absurd H (by simp)
      · rw [if_neg c15] at H
        exact absurd H (by simp)
    · rw [if_neg c13] at H
      have xQ : decide (jr < t139) = false := decide_eq_false c13; clear c13; simp only [Option.some.injEq, Prod.mk.injEq] at H; obtain ⟨rfl, rfl, rfl⟩ := H; have Yp := GM.out; have Yn := sG.out; have ajm := GK.out; have ajf := sF.out; have IY : wr.cell? ⟨nI, 0, none⟩ = some (.int .i64 t139) := (az jW.out 0).trans rfl; have IW : wr.cell? ⟨nI, 1, none⟩ = some (.int .i64 t140) := (az jW.out 1).trans rfl; have IV : wr.cell? ⟨nI, 2, none⟩ = some (u147002) := (az jW.out 2).trans rfl; have Iu := ay jW.out 0; have Ir := ay jW.out 1; have Iq := ay jW.out 2; have abT := GR.out; have abQ := GU.out; have WX : wr.cell? ⟨nP, 0, none⟩ = some (.int .i64 0) := (az jX.out 0).trans rfl; have WW : wr.cell? ⟨nP, 1, none⟩ = some (.int .i64 0) := (az jX.out 1).trans rfl; have WV : wr.cell? ⟨nP, 2, none⟩ = some (.slice none 0 0) := (az jX.out 2).trans rfl; have Wu := ay jX.out 0; have Ws := ay jX.out 1; have Wq := ay jX.out 2; obtain ⟨adU, ace, aht⟩ := Kd.jV iy.out; subst aht; go_wp2
      refine bodyPost_ret (results_cell_row rfl _ _ nP 29 #[.int .i64 t139, .int .i64 t140, .slice adU fD.length ace] (0, 0) _ rfl (by (with_reducible repeat (first | refine aB ?_ _ | refine aF ?_ | refine aC ?_ _)); refine gq (cs := #[.int .i64 t139, .int .i64 t140, .slice none 0 0]) ?_ 2 _ rfl; (with_reducible repeat (first | refine aB ?_ _ | refine aF ?_ | refine aC ?_ _)); refine gq (cs := #[.int .i64 t139, .int .i64 0, .slice none 0 0]) ?_ 1 _ rfl; (with_reducible repeat (first | refine aB ?_ _ | refine aF ?_ | refine aC ?_ _)); refine gq (cs := #[.int .i64 0, .int .i64 0, .slice none 0 0]) ?_ 0 _ rfl; (with_reducible repeat (first | refine aB ?_ _ | refine aF ?_ | refine aC ?_ _)); exact jX.out) Tryz.underlying29 rfl (by kernel_rfl)) rfl ?_
      exact ⟨_, by first | rfl | (simp [aO, aN] <;> rfl) | (simp [*, aO, aN] <;> rfl), by (with_reducible repeat (first | apply Kd.gX | apply Kd.gW | apply Kd.iM)); exact Kd.kZ (Kd.oD (p := ⟨nP, 2, none⟩) (Kd.oD (p := ⟨nP, 1, none⟩) (Kd.oD (p := ⟨nP, 0, none⟩) (Kd.xm iy.out jX.out (by decide)) (fun _ hk => hk.2) (.int .i64 t139)) (fun _ hk => hk.2) (.int .i64 t140)) (fun _ hk => hk.2) (.slice adU fD.length ace)) (fun _ hk => trivial), by repeat (first | (with_reducible first | exact HB.out | apply ak | apply ah | apply au | refine aA ?_ wu.out | refine aA ?_ Bz.out | refine aA ?_ Vs.out) | exact HB.out)⟩
end Go.Proofs.YtcfobekkchhbbaaGreat.PR

namespace Go.Proofs.YtcfobekkchhbbaaGreat.PR
open Go.RowKit Go.Proofs.YtcfobekkchhbbaaGreat.PQ Go.Proofs.af.aK Go.Proofs.af.aV Go.Proofs.af.aW
attribute [local go_sem] iH iF jJ jI gU gK iG iE
set_option linter.unusedVariables false
set_option linter.unusedSimpArgs false
end Go.Proofs.YtcfobekkchhbbaaGreat.PR

namespace Go.Proofs.YtcfobekkchhbbaaGreat.PR
open Go.RowKit Go.Proofs.YtcfobekkchhbbaaGreat.PQ Go.Proofs.af.aK Go.Proofs.af.aV Go.Proofs.af.aW Go.Proofs.YtcfobekkchhbbaaGreat.KK
set_option linter.unusedVariables false
set_option linter.unusedSimpArgs false
theorem _root_.Go.Proofs.YtcfobekkchhbbaaGreat.KK.Rd.touch {w w' : World} {A : Option Addr} {l : List Int} {g : Nat} (h : Rd w A l) (hg : w.grownBy w' (some g)) (hne : ∀ ad, A = some ad → 0 < l.length → ad.block ≠ g) : Rd w' A l := by
 refine ⟨h.1, h.2.1, fun hp => ?_⟩
 obtain ⟨ad, e, hc⟩ := h.2.2 hp; refine ⟨ad, e, fun j p hj => ?_⟩
 obtain ⟨c, h1, h2, h3⟩ := hc j p hj; refine ⟨c, h1, h2, fun i u hi => ?_⟩
 have hx := h3 i u hi; have hb : (ad.add (j * (Kd.int .i64).sz + i)).block = ad.block := uh _ _; have hlt := cell_lt hx; rw [hb] at hlt; have hk := hg.block ad.block hlt (fun e' => hne ad e hp (by injection e')); rw [← hx]
 unfold World.cell?
 rw [hb, hk]
theorem _root_.Go.Proofs.YtcfobekkchhbbaaGreat.KK.Own.touch {w w' : World} {base g : Nat} {v : Value} {l : List Int} (h : Own w base v l) (hg : w.grownBy w' (some g)) (hb : g < base) : Own w' base v l :=
 Own.uX (mX h.row fun k hk => hg.block k (h.row.lt k hk).2 (fun e => by have := (h.row.lt k hk).1; injection e with e; omega))
structure Sg (w0 : World) (g : Nat) (L : List (TypeId × Array Value)) (w : World) : Prop where
 rows : KK.Rows w w0.heap.size L
 gr : w0.grownBy w (some g)
section
variable {w w' w0 : World} {g : Nat} {L : List (TypeId × Array Value)}
theorem Sg.of (h : aY w0 L w) : Sg w0 g L w := ⟨h.rows, KK.dJ h.be _⟩
theorem Sg.below (h : Sg w0 g L w) (hb : Below w.heap.size w w') : Sg w0 g L w' := ⟨h.rows.below hb, bT h.gr (KK.dJ hb _)⟩
theorem Sg.alloc (h : Sg w0 g L w) (o : Obj) : Sg w0 g L (w.alloc o) := h.below ((Below.refl _ _).alloc (Nat.le_refl _) o)
theorem Sg.drew (h : Sg w0 g L w) : Sg w0 g L w.drew := h.below (Below.refl _ _).drew
theorem Sg.touch (h : Sg w0 g L w) (hg : w.grownBy w' (some g)) (hlt : g < w0.heap.size) : Sg w0 g L w' :=
 ⟨h.rows.imp fun k t cs hk _ r => r.grown hg (fun e => by injection e with e; omega), bT h.gr hg⟩
variable {x0 x1 x2 x3 x4 x5 : TypeId × Array Value}
theorem Sg.r0 (h : Sg w0 g (x0 :: L) w) : Row w w0.heap.size x0.1 x0.2 := h.rows.1
theorem Sg.r1 (h : Sg w0 g (x0 :: x1 :: L) w) : Row w (w0.heap.size + 1) x1.1 x1.2 := h.rows.2.1
theorem Sg.r2 (h : Sg w0 g (x0 :: x1 :: x2 :: L) w) : Row w (w0.heap.size + 1 + 1) x2.1 x2.2 := h.rows.2.2.1
theorem Sg.r3 (h : Sg w0 g (x0 :: x1 :: x2 :: x3 :: L) w) : Row w (w0.heap.size + 1 + 1 + 1) x3.1 x3.2 := h.rows.2.2.2.1
end
theorem yM (g : Nat) (s o : Bool) (q : Int) (w : World) (R : Row w g 213 #[.bool s]) :
 Calls Tryz.prog 191 #[.pointer (some ⟨g, 0, none⟩), I q, .bool o] w fun e w' => e = .returned (I q) ∧ Row w' g 213 #[.bool (s || o)] ∧ w.grownBy w' (some g) := by
 have x := R.cell; have f := R.free; have HR := Lib.hid (R.set 0 (.bool (s || o))); have HG : Hid (w.grownBy (w.setCell ⟨g, 0, none⟩ (.bool (s || o))) (some g)) := Lib.hid ⟨rfl, rfl, rfl, by simp, fun k hk hne => Below.heap_setCell w _ _ k (fun e => hne (by rw [e]))⟩; clear R
 cases s
 all_goals
  go_enter Tryz.func191, Tryz.ntmps191
  go_wp2
  go_ret
  exact ⟨rfl, by simpa using HR.out, by simpa using HG.out⟩
theorem Qr (w : World) (g j : Nat) (u : Value) : w.grownBy (w.setCell ⟨g, j, none⟩ u) (some g) := ⟨rfl, rfl, rfl, by simp, fun k hk hne => Below.heap_setCell w _ _ k (fun e => hne (by rw [e]))⟩
theorem QM (g : Nat) (s u : Bool) (X : Array Value) (w : World) (R : Row w g 213 #[.bool s]) (W : World) (hW : W = ((w.setCell ⟨g, 0, none⟩ (.bool u)).alloc (.cells X 29)).alloc (.cells X 29)) :
 Row W (w.heap.size + 1) 29 X ∧ Row W g 213 #[.bool u] ∧ w.grownBy W (some g) := by
 subst hW; refine ⟨?_, ?_, ?_⟩
 · have := Row.new ((w.setCell ⟨g, 0, none⟩ (.bool u)).alloc (.cells X 29)) 29 X
   simpa using this
 · exact ((R.set 0 (.bool u)).alloc _).alloc _
 · exact bT (Qr w g 0 _) (KK.dJ (((Below.refl _ _).alloc (Nat.le_refl _) _).alloc (by simp) _) _)
theorem p_ (g : Nat) (s o : Bool) (a b c : Int) (A : Option Addr) (n cp : Nat) (w : World) (R : Row w g 213 #[.bool s]) :
 Calls Tryz.prog 151 #[.pointer (some ⟨g, 0, none⟩), .agg #[I a, I b, .slice A n cp], .bool o, I c] w fun e w' => e = .returned (.agg #[I a, I b, .slice A n cp]) ∧ Row w' g 213 #[.bool (s || o)] ∧ w.grownBy w' (some g) := by
 have hg := R.lt; have E := Lib.hid (fun u W h => QM g s u #[I a, I b, .slice A n cp] w R W h); have x := R.cell; have f := R.free; clear R
 cases s
 all_goals
  go_enter Tryz.func151, Tryz.ntmps151
  go_wp2
  first
   | exact bodyPost_ret (VN rfl rfl (E.out o _ rfl).1) rfl ⟨rfl, (E.out o _ rfl).2.1, (E.out o _ rfl).2.2⟩
   | exact bodyPost_ret (VN rfl rfl (E.out true _ rfl).1) rfl ⟨rfl, (E.out true _ rfl).2.1, (E.out true _ rfl).2.2⟩
end Go.Proofs.YtcfobekkchhbbaaGreat.PR

namespace Go.Proofs.YtcfobekkchhbbaaGreat.PR
open Go.RowKit Go.Proofs.YtcfobekkchhbbaaGreat.PQ Go.Proofs.af.aK Go.Proofs.af.aV Go.Proofs.af.aW Go.Proofs.YtcfobekkchhbbaaGreat.KK
set_option linter.unusedVariables false
set_option linter.unusedSimpArgs false
theorem JI {w0 w : World} {g : Nat} {s : Bool} (h : aI w0 w g s) : Row w g 213 #[.bool s] := h.1
theorem grown_of {w0 w w' : World} {g : Nat} (hB : Below w0.heap.size w0 w) (hB' : Below w0.heap.size w0 w') (hk : bC w w' g none) : w.grownBy w' (some g) :=
 ⟨hB'.os.trans hB.os.symm, hB'.tape.trans hB.tape.symm, hB'.output.trans hB.output.symm, hk.1, fun k hk' hne => hk.2 k hk' (fun e => hne (by rw [e])) (by simp)⟩
theorem vY {w0 w w' : World} {g : Nat} (hB : Below w0.heap.size w0 w) (hg : w0.heap.size ≤ g) (h : w.grownBy w' (some g)) : Below w0.heap.size w0 w' :=
 ⟨h.os.trans hB.os, h.tape.trans hB.tape, h.output.trans hB.output, Nat.le_trans hB.size h.size, fun k hk => (h.block k (Nat.lt_of_lt_of_le hk hB.size) (fun e => by injection e with e; omega)).trans (hB.block k hk)⟩
theorem V7 {w w' : World} {g : Nat} (h : w.grownBy w' (some g)) : bC w w' g none := ⟨h.size, fun k hk hne _ => h.block k hk (fun e => hne (by injection e))⟩
theorem zX (w0 w : World) (g : Nat) (s : Bool) (bH bI : Int) (A1 : Option Addr) (c1 : Nat) (l1 : List Int) (mP mO : Int) (A2 : Option Addr) (c2 : Nat) (l2 : List Int) (r1 r2 : Int) (r3 : List Int) (r4 : Bool)
 (R : Row w g 213 #[.bool s]) (hg : w0.heap.size ≤ g) (hB : Below w0.heap.size w0 w) (h1 : Rd w A1 l1) (hc1 : l1.length ≤ c1) (hf1 : ∀ ad, A1 = some ad → 0 < l1.length → ad.block ≠ g) (h2 : Rd w A2 l2) (hc2 : l2.length ≤ c2) (hf2 : ∀ ad, A2 = some ad → 0 < l2.length → ad.block ≠ g)
 (h : bP.f s bH bI l1 mP mO l2 = some (r1, r2, r3, r4)) :
 Calls Tryz.prog 154 #[.pointer (some ⟨g, 0, none⟩), .agg #[I bH, I bI, .slice A1 l1.length c1], .agg #[I mP, I mO, .slice A2 l2.length c2]] w fun e w' => ∃ A c, e = .returned (.agg #[I r1, I r2, .slice A r3.length c]) ∧ Own w' w.heap.size (.slice A r3.length c) r3 ∧ Row w' g 213 #[.bool r4] ∧ w.grownBy w' (some g) := by
 refine (bP.calls g s bH bI A1 c1 l1 mP mO A2 c2 l2 r1 r2 r3 r4 w0 w ⟨R, hg⟩ hB h1 hc1 hf1 h2 hc2 hf2 h).mono ?_
 rintro e w' ⟨v, rfl, ho, hI, hb, hk⟩; obtain ⟨A, c, rfl, _, _⟩ := Own.reads ho; exact ⟨A, c, rfl, ho, hI.1, grown_of hB hb hk⟩
theorem Own.first {w : World} {base : Nat} {A : Option Addr} {c : Nat} {l : List Int} (h : Own w base (.slice A l.length c) l) (hp : 0 < l.length) : ∃ b off, A = some ⟨b, off, none⟩ ∧ w.cell? ⟨b, off, none⟩ = some (I (l.getD 0 0)) ∧ base ≤ b := by
 obtain ⟨A', c', he, _, hr⟩ := Own.reads h
 injection he with e1 _ _
 subst e1; obtain ⟨b, off, rfl, _, hc⟩ := hr.cells hp; refine ⟨b, off, rfl, ?_, ?_⟩
 · have := hc 0 _ (iw hp)
   simpa using this
 · exact (h.row.lt b rfl).1
theorem ZW (a b : Int) (A : Option Addr) (n c : Nat) (w : World) : (Instr.field 29 (.agg #[.int .i64 a, .int .i64 b, .slice A n c]) 2).run Tryz.prog w = .ok (.slice A n c) w := by
 have hu := Tryz.underlying29
 have hk : Tryz.prog.cellsOf 27 = 1 := by kernel_rfl
 simp [Instr.field, go_sem, hu, hk, asAgg]
def dO.f (nU : Bool) (bH : Int) (bI : Int) (bu : List Int) (pq : Int) (pg : Int) (lW : List Int) (mP : Int) (mO : Int) (kR : List Int) (a3 : Int) (a4 : Int) : Option (Int × Int × Bool) :=
 (jm.f mP mO kR bH bI bu).bind fun m => if 0 < m.2.2.1.length then
   ((bP.f (nU || m.2.2.2.1 || (lT a3 (m.2.2.1.getD 0 0)).2) mP mO kR pq pg lW).bind fun b => if 0 < b.2.2.1.length then some ((lT a3 (m.2.2.1.getD 0 0)).1, (iL (b.2.2.1.getD 0 0) a4).1, b.2.2.2 || (iL (b.2.2.1.getD 0 0) a4).2) else none) else none
theorem dO.calls (g : Nat) (nU : Bool) (bH : Int) (bI : Int) (eH : Option Addr) (eY : Nat) (bu : List Int) (pq : Int) (pg : Int) (uH : Option Addr) (vS : Nat) (lW : List Int) (mP : Int) (mO : Int) (rE : Option Addr) (ug : Nat) (kR : List Int) (a3 : Int) (a4 : Int) (r1 : Int) (r2 : Int) (r3 : Bool) (w0 w : World) (hI : aI w0 w g nU) (hB : Below w0.heap.size w0 w)
 (mZ : Kd.C (Kd.int .i64) w eH bu.length bu) (nO : bu.length ≤ eY) (Ku : ∀ ad, eH = some ad → 0 < bu.length → ad.block ≠ g) (J8 : Kd.C (Kd.int .i64) w uH lW.length lW) (Ky : lW.length ≤ vS) (Ui : ∀ ad, uH = some ad → 0 < lW.length → ad.block ≠ g) (J7 : Kd.C (Kd.int .i64) w rE kR.length kR) (Kw : kR.length ≤ ug) (Kt : ∀ ad, rE = some ad → 0 < kR.length → ad.block ≠ g)
 (h : dO.f nU bH bI bu pq pg lW mP mO kR a3 a4 = some (r1, r2, r3)) :
 Calls Tryz.prog 190 #[.pointer (some ⟨g, 0, none⟩), .agg #[.int .i64 bH, .int .i64 bI, .slice eH bu.length eY, .int .i64 pq, .int .i64 pg, .slice uH lW.length vS], .agg #[.int .i64 mP, .int .i64 mO, .slice rE kR.length ug], .int .i64 a3, .int .i64 a4] w fun e w' => e = .returned (.tuple #[.int .i64 r1, .int .i64 r2]) ∧ aI w0 w' g r3 ∧ Below w0.heap.size w0 w' ∧ bC w w' g none := by
 unfold dO.f at h
 obtain ⟨⟨m1, m2, lm, fm, em⟩, hm, h⟩ := Option.bind_eq_some_iff.1 h; dsimp only at h
 split at h
 case isFalse => cases h
 rename_i hp; obtain ⟨⟨b1, b2, lb, fb⟩, hbt, h⟩ := Option.bind_eq_some_iff.1 h; dsimp only at h
 split at h
 case isFalse => cases h
 rename_i hp2; simp only [Option.some.injEq, Prod.mk.injEq] at h; obtain ⟨rfl, rfl, rfl⟩ := h; have hgl := (JI hI).lt; have N : Hid (Sg w g [(31, #[I bH, I bI, .slice eH bu.length eY, I pq, I pg, .slice uH lW.length vS]), (29, #[I mP, I mO, .slice rE kR.length ug])] ((w.alloc (.cells #[I bH, I bI, .slice eH bu.length eY, I pq, I pg, .slice uH lW.length vS] 31)).alloc (.cells #[I mP, I mO, .slice rE kR.length ug] 29))) := Lib.hid (Sg.of (((aY.none w).push (by simp) _ _).push (by simp) _ _)); have R := Lib.hid (((JI hI).alloc (.cells #[I bH, I bI, .slice eH bu.length eY, I pq, I pg, .slice uH lW.length vS] 31)).alloc (.cells #[I mP, I mO, .slice rE kR.length ug] 29)); have HG := Lib.hid hI.2; have HB := Lib.hid hB; have C1 := Lib.hid nO; have C5 := Lib.hid Ky; have C2 := Lib.hid Kw; have T1 := Lib.hid (fun w' (h : w.grownBy w' (some g)) => Rd.touch mZ h Ku); have T5 := Lib.hid (fun w' (h : w.grownBy w' (some g)) => Rd.touch J8 h Ui); have T2 := Lib.hid (fun w' (h : w.grownBy w' (some g)) => Rd.touch J7 h Kt); have F2 := Lib.hid Kt; have F5 := Lib.hid Ui; have HM := Lib.hid hm; have HBT := Lib.hid hbt; have P1 := Lib.hid hp; have P2 := Lib.hid hp2; have GL := Lib.hid hgl; clear hI hB mZ nO Ku J8 Ky Ui J7 Kw Kt hm hbt hp hp2 hgl
 obtain ⟨z, hz⟩ : ∃ z, lT a3 (lm.getD 0 0) = z := ⟨_, rfl⟩
 obtain ⟨y, hy⟩ : ∃ y, iL (lb.getD 0 0) a4 = y := ⟨_, rfl⟩
 rw [hz] at HBT ⊢; rw [hy]; have HZ := Lib.hid hz; have HY := Lib.hid hy; clear hz hy; obtain ⟨z1, z2⟩ := z; obtain ⟨y1, y2⟩ := y; dsimp only at HBT ⊢; have hmf := KK.hmf; have hfd := ZW
 go_enter Tryz.func190, Tryz.ntmps190
 go_wp2_with fail
 refine (jm.calls mP mO rE ug kR bH bI eH eY bu m1 m2 lm fm em _ (T2.out _ N.out.gr) C2.out (T1.out _ N.out.gr) C1.out HM.out).mono ?_
 rintro e w2 ⟨v, rfl, ho, hb⟩; obtain ⟨Am, cm, rfl, _, _⟩ := Own.reads ho; have O := Lib.hid ho; have N2 := Lib.hid (N.out.below hb); have R2 := Lib.hid (R.out.below hb R.out.lt); clear ho hb
 go_wp2_with fail
 refine (p_ g nU fm m1 m2 em Am lm.length cm w2 R2.out).mono ?_
 rintro e w3 ⟨rfl, hr3, hg3⟩; have O3 := Lib.hid (Own.touch O.out hg3 (by have := GL.out; simp; omega)); have N3 := Lib.hid (N2.out.touch hg3 GL.out); have R3 := Lib.hid hr3; clear hr3 hg3; obtain ⟨bm, om, rfl, x, _⟩ := Own.first O3.out P1.out
 have hlm : (0 : Int) < lm.length := by have := P1.out; omega
 go_wp2_with fail
 refine (rJ a3 (lm.getD 0 0) w3).mono ?_
 rw [HZ.out]; rintro e w4 ⟨rfl, hb⟩; have N4 := Lib.hid (N3.out.below hb); have R4 := Lib.hid (R3.out.below hb R3.out.lt); clear hb x
 go_wp2_with fail
 refine (yM g (nU || fm) z2 z1 w4 R4.out).mono ?_
 rintro e w5 ⟨rfl, hr5, hg5⟩; have N5 := Lib.hid (N4.out.touch hg5 GL.out); have R5 := Lib.hid hr5; clear hr5 hg5; have x0 := N5.out.r0.cell; have x1 := N5.out.r1.cell
 go_wp2_with fail
 refine (zX w0 w5 g _ mP mO rE ug kR pq pg uH vS lW b1 b2 lb fb R5.out HG.out (vY HB.out HG.out N5.out.gr) (T2.out _ N5.out.gr) C2.out F2.out (T5.out _ N5.out.gr) C5.out F5.out HBT.out).mono ?_
 rintro e w6 ⟨Ab, cb, rfl, ho, hr6, ZE⟩; have N6 := Lib.hid (N5.out.touch ZE GL.out); have R6 := Lib.hid hr6; obtain ⟨bb, ob, rfl, x, _⟩ := Own.first ho P2.out
 have hlb : (0 : Int) < lb.length := by have := P2.out; omega
 clear hr6 ZE ho x0 x1 hlm
 go_wp2_with fail
 refine (pK (lb.getD 0 0) a4 w6).mono ?_
 rw [HY.out]; rintro e w7 ⟨rfl, hb⟩; have N7 := Lib.hid (N6.out.below hb); have R7 := Lib.hid (R6.out.below hb R6.out.lt); clear hb x
 go_wp2_with fail
 refine (yM g fb y2 y1 w7 R7.out).mono ?_
 rintro e w8 ⟨rfl, hr8, hg8⟩; have N8 := Lib.hid (N7.out.touch hg8 GL.out); have R8 := Lib.hid hr8; clear hr8 hg8; go_wp2
 go_ret2
 exact ⟨rfl, ⟨R8.out, HG.out⟩, vY HB.out HG.out N8.out.gr, V7 N8.out.gr⟩
end Go.Proofs.YtcfobekkchhbbaaGreat.PR

namespace Go.Proofs.YtcfobekkchhbbaaGreat.PR
open Go.RowKit Go.Proofs.YtcfobekkchhbbaaGreat.PQ Go.Proofs.af.aK Go.Proofs.af.aV Go.Proofs.af.aW Go.Proofs.YtcfobekkchhbbaaGreat.KK
set_option linter.unusedVariables false
set_option linter.unusedSimpArgs false
theorem xg (a b : Int) (w : World) : Calls Tryz.prog 144 #[I a, I b] w fun e w' => e = .returned (.tuple #[I (A_ a b).1, .bool (A_ a b).2]) ∧ Below w.heap.size w w' := by
 obtain ⟨k, hk⟩ := Yw a b; exact mW.calls k a b _ _ w (hk k (Nat.le_refl _))
def rC (n : Nat) (L : List Int) : Nat → List Int
 | 0 => L
 | j + 1 => (rC n L j).set (j * n + j) (mx (rd (rC n L j) (((j * n + j : Nat)) : Int)) 0)
def rV (n : Nat) (l : List Int) : List Int := rC n (AV n l) n
theorem ry (n : Nat) (L : List Int) (j : Nat) : (rC n L j).length = L.length := by
 induction j with
 | zero => rfl
 | succ j ih => simp only [rC, List.length_set, ih]
theorem t_ (n : Nat) (l : List Int) : (AV n l).length = n * n := upto_length
theorem Q3 (n : Nat) (L : List Int) (hn : n ≤ 8) (hL : L.length = n * n) : ∀ (d j : Nat), j + d = n → bV.l0 (d + 1) n j n n (rC n L j) = some ((n : Int), (n : Int), rC n L n) := by
 intro d
 induction d with
 | zero =>
   intro j hj
   obtain rfl : j = n := by omega
   unfold bV.l0
   rw [if_neg (by omega)]
 | succ d ih =>
   intro j hj; have hlt := jK (r := n) (c := n) (i := j) (k := j) (by omega) (by omega); have hle : n * n ≤ 8 * 8 := Nat.mul_le_mul hn hn
   have e1 : (j : Int) * (n : Int) = ((j * n : Nat) : Int) := by push_cast; rfl
   have e2 : wrap64 ((j : Int) * (n : Int)) = ((j * n : Nat) : Int) := by rw [e1]; exact FW (by omega) (by omega)
   have e3 : wrap64 (((j * n : Nat) : Int) + (j : Int)) = ((j * n + j : Nat) : Int) := by rw [FW (by omega) (by omega)]; push_cast; rfl
   have e4 : wrap64 ((j : Int) + 1) = ((j + 1 : Nat) : Int) := by rw [FW (by omega) (by omega)]; push_cast; rfl
   unfold bV.l0
   rw [if_pos (by omega), e2, e3, if_pos (by omega), if_pos (by rw [ry, hL]; omega), e4, Int.toNat_natCast]; exact ih (j + 1) (by omega)
theorem QZ (n : Nat) (l : List Int) (hn : n ≤ 8) (hl : l.length = n * n) : bV.f (n + 1) n n l = some ((n : Int), (n : Int), rV n l) := by
 have e1 : (l.length : Int) = (n : Int) * (n : Int) := by rw [hl]; push_cast; rfl
 unfold bV.f pY.f
 rw [if_pos ⟨rfl, by omega, by omega, by omega, by omega, e1⟩]; simp only [Option.bind_some, Int.toNat_natCast]; exact Q3 n (AV n l) hn (t_ n l) n 0 (by omega)
theorem Eo (n : Nat) (A : Option Addr) (c : Nat) (l : List Int) (w : World) (hn : n ≤ 8) (hl : l.length = n * n) (hA : Rd w A l) (hc : l.length ≤ c) :
 Calls Tryz.prog 155 #[.agg #[I n, I n, .slice A l.length c]] w fun e w' => ∃ A2 c2, e = .returned (.agg #[I n, I n, .slice A2 (rV n l).length c2]) ∧ Own w' w.heap.size (.slice A2 (rV n l).length c2) (rV n l) ∧ Below w.heap.size w w' := by
 refine (bV.calls (n + 1) n n A c l _ _ _ w hA hc (QZ n l hn hl)).mono ?_
 rintro e w' ⟨v, rfl, ho, hb⟩; obtain ⟨A2, c2, rfl, _, _⟩ := Own.reads ho; exact ⟨A2, c2, rfl, ho, hb⟩
def jf (r n : Nat) (a p : List Int) : List Int := mulL r n r (mulL r n n a p) (yB r n a)
def oz (r n : Nat) (a p : List Int) : Bool := sW r n n a p || sW r n r (mulL r n n a p) (yB r n a)
theorem kC (r c1 c2 : Nat) (l m : List Int) : (mulL r c1 c2 l m).length = r * c2 := upto_length
theorem shape {r c : Nat} {l : List Int} (hr : r ≤ 8) (hc : c ≤ 8) (hl : l.length = r * c) : 0 ≤ (r : Int) ∧ (r : Int) ≤ 8 ∧ 0 ≤ (c : Int) ∧ (c : Int) ≤ 8 ∧ (l.length : Int) = (r : Int) * (c : Int) :=
 ⟨by omega, by omega, by omega, by omega, by rw [hl]; push_cast; rfl⟩
theorem DK {r c1 c2 : Nat} {l m : List Int} (hr : r ≤ 8) (h1 : c1 ≤ 8) (h2 : c2 ≤ 8) (hl : l.length = r * c1) (hm : m.length = c1 * c2) : jm.f r c1 l c1 c2 m = some ((r : Int), (c2 : Int), mulL r c1 c2 l m, sW r c1 c2 l m, 0) := by
 unfold jm.f
 rw [if_pos rfl, if_pos ⟨shape hr h1 hl, shape h1 h2 hm⟩]; simp only [Int.toNat_natCast]
theorem LP {r c : Nat} {l : List Int} (hr : r ≤ 8) (hc : c ≤ 8) (hl : l.length = r * c) : jQ.f r c l = some ((c : Int), (r : Int), yB r c l) := by
 unfold jQ.f
 rw [if_pos (shape hr hc hl)]; simp only [Int.toNat_natCast]
theorem Ho (s : Bool) (a b : Int) (l : List Int) (o : Bool) (e : Int) : dH.f s a b l o e = some (a, b, l, s || o) := by
 unfold dH.f
 cases s <;> simp
theorem uj (s : Bool) (r n : Nat) (a p : List Int) (hr : r ≤ 8) (hn : n ≤ 8) (ha : a.length = r * n) (hp : p.length = n * n) :
 bP.f s r n a n n p = some ((r : Int), (r : Int), jf r n a p, s || oz r n a p) := by
 unfold bP.f
 simp only [DK hr hn hn ha hp, Option.bind_some, Ho, LP hr hn ha, DK hr hn hr (kC _ _ _ _ _) (pO r n a)]
 simp [jf, oz, Bool.or_assoc]
theorem ru {w w' : World} {r : Option Nat} (h : w.grownBy w' r) {p : Addr} (hp : w.heap.size ≤ p.block) (u : Value) : w.grownBy (w'.setCell p u) r :=
 ⟨h.os, h.tape, h.output, by simpa using h.size, fun k hk hne => (Below.heap_setCell w' p u k (by omega)).trans (h.block k hk hne)⟩
theorem yS {w w' : World} {r : Option Nat} (h : w.grownBy w' r) {C : Nat} (hp : w.heap.size ≤ C) (a b c : Value) : w.grownBy (cO w' C a b c) r :=
 ru (ru (ru h (p := ⟨C, 0, none⟩) hp a) (p := ⟨C, 1, none⟩) hp b) (p := ⟨C, 2, none⟩) hp c
theorem yG (g kb pb n : Nat) (s : Bool) (A : Option Addr) (cp : Nat) (k : List Int) (q : Int) (w : World) (hn : n ≤ 8) (hk : k.length = n * 1) (hA : Rd w A k) (hcp : k.length ≤ cp)
 (Rk : Row w kb 29 #[I n, I 1, .slice A k.length cp]) (Rp : Row w pb 211 #[.pointer (some ⟨g, 0, none⟩)]) (R : Row w g 213 #[.bool s]) :
 Calls Tryz.prog 202 #[I q, .pointer (some ⟨kb, 0, none⟩), .pointer (some ⟨pb, 0, none⟩)] w fun e w' => ∃ A2 c2, e = .returned (.agg #[I n, I 1, .slice A2 (kW n 1 k q).length c2]) ∧ Own w' w.heap.size (.slice A2 (kW n 1 k q).length c2) (kW n 1 k q) ∧ Row w' g 213 #[.bool (s || scaleB n 1 k q)] ∧ w.grownBy w' (some g) := by
 have hgl := R.lt; have N : Hid (Sg w g [(29, #[I 0, I 0, .slice none 0 0])] (w.alloc (.cells #[I 0, I 0, .slice none 0 0] 29))) := Lib.hid (Sg.of ((aY.none w).push (by simp) _ _)); have HS := Lib.hid (QL n 1 A cp k q _ hn (by omega) hk (hA.below ((Below.refl _ _).alloc (Nat.le_refl _) (.cells #[I 0, I 0, .slice none 0 0] 29))) hcp); have x0 := (Rk.alloc (.cells #[I 0, I 0, .slice none 0 0] 29)).cell; have RP := Lib.hid (Rp.alloc (.cells #[I 0, I 0, .slice none 0 0] 29)); have RG := Lib.hid (R.alloc (.cells #[I 0, I 0, .slice none 0 0] 29)); have GL := Lib.hid hgl
 obtain ⟨L, hL⟩ : ∃ L, kW n 1 k q = L := ⟨_, rfl⟩
 obtain ⟨b, hb⟩ : ∃ b, scaleB n 1 k q = b := ⟨_, rfl⟩
 rw [hL, hb] at HS ⊢; clear hn hk hA hcp Rk Rp R hgl hL hb
 go_enter Tryz.func202, Tryz.ntmps202
 go_wp2_with fail
 refine HS.out.mono ?_
 rintro e w2 ⟨v, rfl, ho, hb⟩; obtain ⟨A2, c2, rfl, _, _⟩ := Own.reads ho; have O := Lib.hid ho; have N2 := Lib.hid ((N.out.below hb).alloc (.cells #[I n, I 1, .slice A2 L.length c2] 29)); have RP2 := Lib.hid (RP.out.below hb RP.out.lt); have RG2 := Lib.hid ((RG.out.below hb RG.out.lt).alloc (.cells #[I n, I 1, .slice A2 L.length c2] 29)); clear ho hb x0; have x1 := RP2.out.cell; have x2 := RP2.out.lt
 go_wp2_with fail
 refine (p_ g s b n 1 0 A2 L.length c2 _ RG2.out).mono ?_
 rintro e w3 ⟨rfl, hr3, hg3⟩; have O3 := Lib.hid (Own.touch (O.out.alloc _) hg3 (by have := GL.out; simp; omega)); have N3 := Lib.hid (N2.out.touch hg3 GL.out); have R3 := Lib.hid hr3; clear hr3 hg3 x1 x2; have x1 := N3.out.r0.cell; have g1 := N3.out.r0.free; go_wp2
 refine bodyPost_ret (VN rfl rfl (N3.out.r0.cO _ _ _)) rfl ⟨_, _, rfl, ?_, R3.out.qy (by have := GL.out; omega), yS N3.out.gr (Nat.le_refl _) _ _ _⟩
 exact (O3.out.cO (by simp) _ _ _).lower (by simp)
end Go.Proofs.YtcfobekkchhbbaaGreat.PR

namespace Go.Proofs.YtcfobekkchhbbaaGreat.KK
open Go.RowKit
set_option linter.unusedVariables false
set_option linter.unusedSimpArgs false
section
variable {P : Program} {md : Region.Mode} {ops : Array Oper} {Q : Exit → Act → World → Prop} {S : World → Prop} {m : Nat}
def Until (P : Program) (md : Region.Mode) (ops : Array Oper) (Q : Exit → Act → World → Prop) (S : World → Prop) (m : Nat) : Nat → Array Bool → Act → World → Prop
 | 0, L, a, w => Region.ready md ops L = [] ∧ Q .normal a w
 | f + 1, L, a, w => (Region.ready md ops L = [] → Q .normal a w) ∧
     ∀ i ∈ Region.ready md ops L, wpOp P ops Q i (fun a' w' => ((L.setIfInBounds i true).getD m true = false → S w') ∧ Until P md ops Q S m f (L.setIfInBounds i true) a' w') a w
theorem Until.any : ∀ (f : Nat) (L : Array Bool) (a : Act) (w : World), Until P md ops Q S m f L a w → wpAny P md ops Q f L a w
 | 0, _, _, _, h => h
 | f + 1, _, _, _, h => ⟨h.1, fun i hi => wpOp_mono (fun a' w' h' => Until.any f _ a' w' h'.2) (h.2 i hi)⟩
def waits (md : Region.Mode) (ops : Array Oper) (m i : Nat) : Bool := match ops[m]? with | some o => o.after.any fun e => Region.binds md e && e.on == i | none => false
theorem Lu {i : Nat} (h : waits md ops m i = true) : ∃ o e, ops[m]? = some o ∧ e ∈ o.after ∧ Region.binds md e = true ∧ e.on = i := by
 unfold waits at h
 cases ho : ops[m]? with
 | none => rw [ho] at h; cases h
 | some o =>
   rw [ho] at h; simp only [Array.any_eq_true'] at h; obtain ⟨e, he, hb⟩ := h; simp only [Bool.and_eq_true, beq_iff_eq] at hb; exact ⟨o, e, rfl, he, hb.1, hb.2⟩
theorem Az {i j : Nat} {L : Array Bool} (hi : i ∈ Region.ready md ops L) (hj : j ∈ Region.ready md ops L) : ∃ o, ops[j]? = some o ∧ ∀ e ∈ o.after, Region.binds md e = true → e.on ≠ i := by
 obtain ⟨_, o, ho, hall⟩ := mem_ready.1 hj; refine ⟨o, ho, fun e he hb heq => ?_⟩
 have h1 := hall e he hb; have h0 := (mem_ready.1 hi).1; rw [heq] at h1
 by_cases hs : i < L.size
 · rw [Array.getD_eq_getD_getElem?, Array.getElem?_eq_getElem hs] at h0 h1
   simp at h0 h1
   rw [h0] at h1
   cases h1
 · rw [Array.getD_eq_getD_getElem?, Array.getElem?_eq_none (by omega)] at h1
   simp at h1
theorem Until.first {i : Nat} {oi : Oper} {v : Value} (hi : ops[i]? = some oi) (hs : Region.noSelect ops = true) (hQ : ∀ c a w, Q (.panic c) (a.put oi.dst v) w → Q (.panic c) a w) (hm : waits md ops m i = true) :
 ∀ (f : Nat) (L : Array Bool) (a : Act) (w : World),
   (∀ j oj, ops[j]? = some oj → j ≠ i → L.getD j true = false → (∀ e ∈ oj.after, Region.binds md e = true → e.on ≠ i) → oi.apart ops oj = true) →
   i ∈ Region.ready md ops L → L.getD m true = false → YieldsIf P ops S oi v a → S w →
   Until P md ops Q S m f (L.setIfInBounds i true) (a.put oi.dst v) w → Until P md ops Q S m (f + 1) L a w := by
 obtain ⟨om, em, hom, hem, hbm, abL⟩ := Lu hm; intro f
 induction f with
 | zero =>
   intro L a w hf hr hu hy hS H; refine ⟨fun h => (by rw [h] at hr; cases hr), fun j hj => ?_⟩
   by_cases hji : j = i
   · subst hji; exact hy.wpOp hi hS ⟨fun _ => hS, H⟩
   · have h := ready_mono hj hji
     rw [H.1] at h
     cases h
 | succ f ih =>
   intro L a w hf hr hu hy hS H; refine ⟨fun h => (by rw [h] at hr; cases hr), fun j hj => ?_⟩
   by_cases hji : j = i
   · subst hji; exact hy.wpOp hi hS ⟨fun _ => hS, H⟩
   · obtain ⟨oj, hoj, hno⟩ := Az hr hj
     have hjm : j ≠ m := fun e => by
      subst e; rw [hom] at hoj
      injection hoj with hoj
      subst hoj; exact hno em hem hbm abL
     have him : i ≠ m := fun e => by
      subst e; obtain ⟨o', ho', hn'⟩ := Az hr hr; rw [hom] at ho'
      injection ho' with ho'
      subst ho'; exact hn' em hem hbm abL
     have hun := (mem_ready.1 hj).1; have h2 := wpOp_putIf hoj (hf j oj hoj hji hun hno) (fun cs b => Region.noSelect_spec hs i oi cs b hi) (fun cs b => Region.noSelect_spec hs j oj cs b hoj) hQ hy (H.2 j (ready_mono hj hji)); refine wpOp_mono (fun a' w' h3 => ?_) h2
     obtain ⟨hy', hS', H'⟩ := h3
     have hu' : (L.setIfInBounds j true).getD m true = false := by rw [getD_set_ne true hjm]; exact hu
     have hSw : S w' := hS' (by rw [getD_set_ne true hjm, getD_set_ne true him]; exact hu); refine ⟨fun _ => hSw, ih _ a' w' ?_ (ready_mono hr (Ne.symm hji)) hu' hy' hSw ?_⟩
     · intro k ok hk hki hku hkn
       refine hf k ok hk hki ?_ hkn
       by_cases hjk : j = k
       · subst hjk; exact hun
       · rw [getD_set_ne true hjk] at hku; exact hku
     · rw [Array.setIfInBounds_comm _ _ hji]
       exact H'
theorem Until.take {i : Nat} {oi : Oper} {v : Value} {f : Nat} {L : Array Bool} {a : Act} {w : World} (hi : ops[i]? = some oi)
 (hs : Region.noSelect ops = true) (hf : Region.free md ops L i = true) (hr : (Region.ready md ops L).contains i = true) (hm : waits md ops m i = true) (hu : L.getD m true = false)
 (hQ : ∀ c a w, Q (.panic c) (a.put oi.dst v) w → Q (.panic c) a w) (hy : YieldsIf P ops S oi v a) (hS : S w)
 (h : Until P md ops Q S m f (L.setIfInBounds i true) (a.put oi.dst v) w) : Until P md ops Q S m (f + 1) L a w :=
 Until.first hi hs hQ hm f L a w (Region.free_spec hi hf) (by simpa using hr) hu hy hS h
theorem Until.one {i : Nat} {o : Oper} {f : Nat} {L : Array Bool} {a : Act} {w : World} (hr : Region.ready md ops L = [i]) (ho : ops[i]? = some o)
 (h : ∀ K' : Act → World → Prop, Shut (∀ a w, ((L.setIfInBounds i true).getD m true = false → S w) → Until P md ops Q S m f (L.setIfInBounds i true) a w → K' a w) → if Region.wanted o (yielded ops a.tmps) = true then Oper.wp P o a w K' Q else K' (a.put o.dst undef) w) :
 Until P md ops Q S m (f + 1) L a w := by
 refine ⟨fun h0 => (by rw [hr] at h0; cases h0), fun j hj => ?_⟩
 rw [hr] at hj; obtain rfl := List.mem_singleton.1 hj; have h1 := h (fun a' w' => ((L.setIfInBounds j true).getD m true = false → S w') ∧ Until P md ops Q S m f (L.setIfInBounds j true) a' w') (fun a w hS hU => ⟨hS, hU⟩)
 unfold wpOp
 simp only [ho]
 split
 · rename_i hw
   rw [if_pos hw] at h1; exact .inl h1
 · rename_i hw
   rw [if_neg hw] at h1; exact h1
theorem Until.done {L : Array Bool} {a : Act} {w : World} (hr : Region.ready md ops L = []) (h : Q .normal a w) : ∀ f, Until P md ops Q S m f L a w
 | 0 => ⟨hr, h⟩
 | _ + 1 => ⟨fun _ => h, by rw [hr]; simp⟩
theorem yH {id : Nat} {a : Act} {w : World} (S : World → Prop) (m : Nat) (hm : P.follows .mixedOrders = true) (hS : S w.drew) (h : S w.drew → Until P .any ops (NoPanic Q) S m ops.size (Array.replicate ops.size false) a w.drew) : (Code.region id ops true).wp P Q a w :=
 wp_region_noPanic (wp_region_any hm (Until.any _ _ _ _ (h hS)))
end
end Go.Proofs.YtcfobekkchhbbaaGreat.KK

