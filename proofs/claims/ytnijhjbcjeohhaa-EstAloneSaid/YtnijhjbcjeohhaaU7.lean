import Derived.Test.YtnijhjbcjeohhaaU6
/- Joined and thinned by a program of this session's own (wip/pack2.py) out of its texts (wip/ of its repo); parts were laid by its own program (wip/print-patch.py over the kit's print) out of the translation; Lean checks all. -/
set_option maxRecDepth 100000
set_option maxHeartbeats 8000000
namespace Go.Proofs.Ytnijhjbcjeohhaa.PR
open Go.RowKit Go.Proofs.Ytnijhjbcjeohhaa.PQ Go.Proofs.af.aO Go.Proofs.af.aV Go.Proofs.af.aX
attribute [local go_sem] iU iR jU jT gY gX iT iQ
set_option linter.unusedVariables false
set_option linter.unusedSimpArgs false
def aI (w0 W : World) (g : Nat) (f0 : Bool) : Prop := W.heap[g]? = some (.cells #[.bool f0] 158 (0, 0)) ∧ w0.heap.size ≤ g
theorem aI.grown {w0 W : World} {g : Nat} {f0 : Bool} {W1 : World} {row : Option Nat} (h : aI w0 W g f0) (hw : W.grownBy W1 row) (hne : some g ≠ row) : aI w0 W1 g f0 := by
 obtain ⟨hb, hg⟩ := h
 exact ⟨Sj hb hw hne, hg⟩
theorem aI.below {w0 W : World} {g : Nat} {f0 : Bool} {W1 : World} (h : aI w0 W g f0) (hw : Below W.heap.size W W1) : aI w0 W1 g f0 := h.grown (dJ hw none) (by simp)
theorem aI.alloc {w0 W : World} {g : Nat} {f0 : Bool} (h : aI w0 W g f0) (o : Obj) : aI w0 (W.alloc o) g f0 := h.below (ak (Below.refl _ _) o)
theorem aI.drewN {w0 W : World} {g : Nat} {f0 : Bool} (h : aI w0 W g f0) (m : Nat) : aI w0 (W.drewN m) g f0 := h
theorem aI.drew {w0 W : World} {g : Nat} {f0 : Bool} (h : aI w0 W g f0) : aI w0 W.drew g f0 := h
theorem aI.apart {w0 W : World} {g : Nat} {f0 : Bool} {α : Type} {d : Kd α} {e : Nat} {base : Nat} {ok : Nat → Prop} {v : Value} {xs : List α} (h : aI w0 W g f0) (ho : d.R e W base ok v xs) (ht : ∀ q, q ∈ e :: d.E → q ≠ 158) : d.R e W base (fun k => ok k ∧ k ≠ g) v xs := by
 obtain ⟨hb, hg⟩ := h
 exact Kd.xx ho hb ht
theorem aI.lt {w0 W : World} {g : Nat} {f0 : Bool} (h : aI w0 W g f0) : g < W.heap.size := by
 obtain ⟨hb, hg⟩ := h
 exact dY hb
theorem aI.ge {w0 W : World} {g : Nat} {f0 : Bool} (h : aI w0 W g f0) : w0.heap.size ≤ g := by
 obtain ⟨hb, hg⟩ := h
 exact hg
theorem aI.far {w0 W : World} {g : Nat} {f0 : Bool} {p : Addr} (h : aI w0 W g f0) (hne : g ≠ p.block) (u : Value) : aI w0 (W.setCell p u) g f0 := by
 obtain ⟨hb, hg⟩ := h
 exact ⟨lS hb hne u, hg⟩
theorem Et {W : World} {g : Nat} {f0 : Bool} (h : W.heap[g]? = some (.cells #[.bool f0] 158 (0, 0))) : W.cell? ⟨g, 0, none⟩ = some (.bool f0) := (az h 0).trans rfl
theorem aI.iM {w0 W : World} {g : Nat} {f0 : Bool} (h : aI w0 W g f0) (x : Bool) : aI w0 (W.setCell ⟨g, 0, none⟩ (.bool x)) g x := by
 obtain ⟨hb, hg⟩ := h
 exact ⟨by simpa using PZ hb 0 (.bool x), hg⟩
def dI.f (nZ : Bool) (bH : Int) (bI : Int) (bu : List Int) (a2 : Bool) (a3 : Int) : Option (Int × Int × List Int × Bool) := if nZ = true then (some (bH, bI, bu, true)) else (some (bH, bI, bu, a2))
theorem dI.calls (g : Nat) (nZ : Bool) (bH : Int) (bI : Int) (sV : Nat → Prop) (LG : Value) (bu : List Int) (a2 : Bool) (a3 : Int) (r1 : Int) (r2 : Int) (r3 : List Int) (r4 : Bool) (w0 w : World) (hI : aI w0 w g nZ) (hB : Below w0.heap.size w0 w) (abK : Kd.R (Kd.int .i64) 22 w w0.heap.size sV LG bu) (h : dI.f nZ bH bI bu a2 a3 = some (r1, r2, r3, r4)) :
 Calls Try.prog 100 #[.pointer (some ⟨g, 0, none⟩), .agg #[.int .i64 bH, .int .i64 bI, LG], .bool a2, .int .i64 a3] w fun e w' => ∃ Jr : Value, e = .returned (.agg #[.int .i64 r1, .int .i64 r2, Jr]) ∧ Kd.R (Kd.int .i64) 22 w' w0.heap.size (fun k_ => (sV k_ ∨ w.heap.size ≤ k_)) Jr r3 ∧ aI w0 w' g r4 ∧ Below w0.heap.size w0 w' ∧ Kept w w' (fun k_ => (sV k_) ∨ k_ = g) := by
 have Ig := Try.underlying31
 have oQ := aj.mk (show Kd.R (Kd.int .i64) 22 w w0.heap.size (fun k_ => (sV k_ ∨ w.heap.size ≤ k_)) LG bu from Kd.lu abK (fun k_ hk => (.inl hk)))
 have HI0 := aj.mk hI
 have HL := aj.mk hB.size
 clear hI
 have HK := aj.mk (Kept.refl w (fun k_ => (sV k_) ∨ k_ = g))
 have HW0 := aj.mk hB.size
 have HB := aj.mk hB
 clear hB
 have H : (if nZ = true then (some (bH, bI, bu, true)) else (some (bH, bI, bu, a2))) = some (r1, r2, r3, r4) := h
 clear h
 by_cases c5 : nZ = true
 · subst c5
   rw [if_pos rfl] at H
   simp only [Option.some.injEq, Prod.mk.injEq] at H
   obtain ⟨rfl, rfl, rfl, rfl⟩ := H
   obtain ⟨Ao6, ZY, eo6⟩ := Kd.jY oQ.out
   subst eo6
   go_enter Try.func100, Try.ntmps100
   go_wp2_with (first | ((with_reducible refine dH (N := 5) rfl ?_); refine cu ?hg (N := 5) ?hd (cs := #[.int .i64 bH, .int .i64 bI, .slice Ao6 bu.length ZY]) (t := 31) ?hr ?_; (case hd => rfl); (case hg => rfl); (case hr => first | (go_simp; done) | (go_simp; rfl)); intro jJ hg w7 hbox hb; have bF := aj.mk (Kd.pU (by (with_reducible repeat (first | apply Kd.gI | apply Kd.gG | apply Kd.iG)); exact oQ.out) hb); have dS := aj.mk (aI.below (by repeat (first | (with_reducible first | exact HI0.out | apply aI.alloc | apply aI.drewN | apply aI.drew | apply aI.iM) | exact HI0.out)) hb); have eu := aj.mk (Kept.below (S := (fun k_ => (sV k_) ∨ k_ = g)) (by repeat (first | (with_reducible first | exact HK.out | apply Kept.alloc | apply Kept.drewN | apply Kept.drew | refine Kept.setCell ?_ (.inl (.inr rfl)) _) | exact HK.out)) hb); have fM := aj.mk (aP (by repeat (first | (with_reducible first | exact HB.out | apply ak | apply ah | apply au | refine aA ?_ (aI.ge HI0.out)) | exact HB.out)) hb); have jR := aj.mk (hbox); have kD := aj.mk ((by rw [hg]; exact (by first | exact HK.out.1 | exact (show Kept w _ (fun k_ => (sV k_) ∨ k_ = g) from by repeat (first | (with_reducible first | exact HK.out | apply Kept.alloc | apply Kept.drewN | apply Kept.drew | refine Kept.setCell ?_ (.inl (.inr rfl)) _) | exact HK.out)).1) : w.heap.size ≤ jJ)); have kW := aj.mk ((by rw [hg]; exact (bf (by repeat (first | (with_reducible first | exact HB.out | apply ak | apply ah | apply au | refine aA ?_ (aI.ge HI0.out)) | exact HB.out))) : w0.heap.size ≤ jJ)); have xJ := aj.mk ((by rw [hg]; exact Nat.ne_of_lt (aI.lt (show aI w0 _ g true from by repeat (first | (with_reducible first | exact HI0.out | apply aI.alloc | apply aI.drewN | apply aI.drew | apply aI.iM) | exact HI0.out))) : g ≠ jJ)); have AO := aj.mk ((by rw [hg]; exact Nat.ne_of_gt (aI.lt (show aI w0 _ g true from by repeat (first | (with_reducible first | exact HI0.out | apply aI.alloc | apply aI.drewN | apply aI.drew | apply aI.iM) | exact HI0.out))) : jJ ≠ g)); clear oQ; clear HI0; clear HK; clear HB; have oQ := bF; have HI0 := dS; have HK := eu; have HB := fM; have kQ := jR; have EO := kD; have EW := kW; have nO := xJ; have Jl := AO; clear bF dS eu fM jR kD kW xJ AO; clear hb hbox hg) | ((with_reducible refine dH (N := 8) rfl ?_); refine cu ?hg (N := 8) ?hd (cs := #[.int .i64 0, .int .i64 0, .slice none 0 0]) (t := 31) ?hr ?_; (case hd => rfl); (case hg => rfl); (case hr => first | (go_simp; done) | (go_simp; rfl)); intro jA hg w8 hbox hb; have bF := aj.mk (Kd.pU (by (with_reducible repeat (first | apply Kd.gI | apply Kd.gG | apply Kd.iG)); exact oQ.out) hb); have dS := aj.mk (aI.below (by repeat (first | (with_reducible first | exact HI0.out | apply aI.alloc | apply aI.drewN | apply aI.drew | apply aI.iM | refine aI.far ?_ nO.out _) | exact HI0.out)) hb); have eu := aj.mk (bz (g := jJ) (o := .cells #[.int .i64 bH, .int .i64 bI, .slice Ao6 bu.length ZY] 31 (0, 0)) (by (with_reducible repeat (first | refine aB ?_ _ | refine aF ?_ | refine aC ?_ _)); exact kQ.out) hb); have fM := aj.mk (Kept.below (S := (fun k_ => (sV k_) ∨ k_ = g)) (by repeat (first | (with_reducible first | exact HK.out | apply Kept.alloc | apply Kept.drewN | apply Kept.drew | refine Kept.setCell ?_ (.inl (.inr rfl)) _ | refine Kept.setCell ?_ (.inr EO.out) _) | exact HK.out)) hb); have jR := aj.mk (aP (by repeat (first | (with_reducible first | exact HB.out | apply ak | apply ah | apply au | refine aA ?_ (aI.ge HI0.out) | refine aA ?_ EW.out) | exact HB.out)) hb); have kD := aj.mk (hbox); have kW := aj.mk ((by rw [hg]; exact (by first | exact HK.out.1 | exact (show Kept w _ (fun k_ => (sV k_) ∨ k_ = g) from by repeat (first | (with_reducible first | exact HK.out | apply Kept.alloc | apply Kept.drewN | apply Kept.drew | refine Kept.setCell ?_ (.inl (.inr rfl)) _ | refine Kept.setCell ?_ (.inr EO.out) _) | exact HK.out)).1) : w.heap.size ≤ jA)); have xJ := aj.mk ((by rw [hg]; exact (bf (by repeat (first | (with_reducible first | exact HB.out | apply ak | apply ah | apply au | refine aA ?_ (aI.ge HI0.out) | refine aA ?_ EW.out) | exact HB.out))) : w0.heap.size ≤ jA)); have AO := aj.mk ((by rw [hg]; exact Nat.ne_of_lt (dY (g := jJ) (o := .cells #[.int .i64 bH, .int .i64 bI, .slice Ao6 bu.length ZY] 31 (0, 0)) (by (with_reducible repeat (first | refine aB ?_ _ | refine aF ?_ | refine aC ?_ _)); exact kQ.out)) : jJ ≠ jA)); have Pn := aj.mk ((by rw [hg]; exact Nat.ne_of_gt (dY (g := jJ) (o := .cells #[.int .i64 bH, .int .i64 bI, .slice Ao6 bu.length ZY] 31 (0, 0)) (by (with_reducible repeat (first | refine aB ?_ _ | refine aF ?_ | refine aC ?_ _)); exact kQ.out)) : jA ≠ jJ)); have yO := aj.mk ((by rw [hg]; exact Nat.ne_of_lt (aI.lt (show aI w0 _ g true from by repeat (first | (with_reducible first | exact HI0.out | apply aI.alloc | apply aI.drewN | apply aI.drew | apply aI.iM | refine aI.far ?_ nO.out _) | exact HI0.out))) : g ≠ jA)); have JP := aj.mk ((by rw [hg]; exact Nat.ne_of_gt (aI.lt (show aI w0 _ g true from by repeat (first | (with_reducible first | exact HI0.out | apply aI.alloc | apply aI.drewN | apply aI.drew | apply aI.iM | refine aI.far ?_ nO.out _) | exact HI0.out))) : jA ≠ g)); clear oQ; clear HI0; clear kQ; clear HK; clear HB; have oQ := bF; have HI0 := dS; have kQ := eu; have HK := fM; have HB := jR; have oK := kD; have VI := kW; have VK := xJ; have Az := AO; have Aw := Pn; have zo := yO; have zn := JP; clear bF dS eu fM jR kD kW xJ AO Pn yO JP; clear hb hbox hg; obtain ⟨aaG, ag7⟩ := HI0.out; have um := Et aaG; have uk := ay aaG 0; clear aaG ag7; have abR := Az.out; have abO := Aw.out; have Yu := Jl.out; have Yr := nO.out; have pF : w8.cell? ⟨jJ, 0, none⟩ = some (.int .i64 bH) := (az kQ.out 0).trans rfl; have pz : w8.cell? ⟨jJ, 1, none⟩ = some (.int .i64 bI) := (az kQ.out 1).trans rfl; have pq : w8.cell? ⟨jJ, 2, none⟩ = some (.slice Ao6 bu.length ZY) := (az kQ.out 2).trans rfl; have pg := ay kQ.out 0; have o_ := ay kQ.out 1; have o9 := ay kQ.out 2; have ajk := zn.out; have ajd := zo.out; have afz : w8.cell? ⟨jA, 0, none⟩ = some (.int .i64 0) := (az oK.out 0).trans rfl; have afy : w8.cell? ⟨jA, 1, none⟩ = some (.int .i64 0) := (az oK.out 1).trans rfl; have afx : w8.cell? ⟨jA, 2, none⟩ = some (.slice none 0 0) := (az oK.out 2).trans rfl; have aeW := ay oK.out 0; have aeV := ay oK.out 1; have aeU := ay oK.out 2))
   refine bodyPost_ret (results_cell_row rfl _ _ jA 31 #[.int .i64 bH, .int .i64 bI, .slice Ao6 bu.length ZY] (0, 0) _ rfl (by (with_reducible repeat (first | refine aB ?_ _ | refine aF ?_ | refine aC ?_ _)); refine fZ (cs := #[.int .i64 bH, .int .i64 bI, .slice none 0 0]) ?_ 2 _ rfl; (with_reducible repeat (first | refine aB ?_ _ | refine aF ?_ | refine aC ?_ _)); refine fZ (cs := #[.int .i64 bH, .int .i64 0, .slice none 0 0]) ?_ 1 _ rfl; (with_reducible repeat (first | refine aB ?_ _ | refine aF ?_ | refine aC ?_ _)); refine fZ (cs := #[.int .i64 0, .int .i64 0, .slice none 0 0]) ?_ 0 _ rfl; (with_reducible repeat (first | refine aB ?_ _ | refine aF ?_ | refine aC ?_ _)); refine lS ?_ zn.out _; (with_reducible repeat (first | refine aB ?_ _ | refine aF ?_ | refine aC ?_ _)); exact oK.out) Try.underlying31 rfl (by kernel_rfl)) rfl ?_
   exact ⟨_, by first | rfl | (simp [aN, aK] <;> rfl) | (simp [*, aN, aK] <;> rfl), by (with_reducible repeat (first | apply Kd.gI | apply Kd.gG | apply Kd.iG)); exact Kd.lu (Kd.oI (p := ⟨jA, 2, none⟩) (Kd.oI (p := ⟨jA, 1, none⟩) (Kd.oI (p := ⟨jA, 0, none⟩) (Kd.oI (p := ⟨g, 0, none⟩) (Kd.xx (aI.apart HI0.out oQ.out (by decide)) oK.out (by decide)) (fun _ hk => hk.1.2) (.bool true)) (fun _ hk => hk.2) (.int .i64 bH)) (fun _ hk => hk.2) (.int .i64 bI)) (fun _ hk => hk.2) (.slice Ao6 bu.length ZY)) (fun _ hk => hk.1.1), by repeat (first | (with_reducible first | exact HI0.out | apply aI.alloc | apply aI.drewN | apply aI.drew | apply aI.iM | refine aI.far ?_ nO.out _ | refine aI.far ?_ zo.out _) | exact HI0.out), by repeat (first | (with_reducible first | exact HB.out | apply ak | apply ah | apply au | refine aA ?_ (aI.ge HI0.out) | refine aA ?_ EW.out | refine aA ?_ VK.out) | exact HB.out), by repeat (first | (with_reducible first | exact HK.out | apply Kept.alloc | apply Kept.drewN | apply Kept.drew | refine Kept.setCell ?_ (.inl (.inr rfl)) _ | refine Kept.setCell ?_ (.inr EO.out) _ | refine Kept.setCell ?_ (.inr VI.out) _) | exact HK.out)⟩
 · replace c5 := Bool.eq_false_iff.mpr c5
   subst c5
   have H1 : (some (bH, bI, bu, a2)) = some (r1, r2, r3, r4) := by rw [if_neg (show ¬ (false = true) by decide)] at H; exact H
   clear H
   have H := H1
   clear H1
   simp only [Option.some.injEq, Prod.mk.injEq] at H
   obtain ⟨rfl, rfl, rfl, rfl⟩ := H
   obtain ⟨OO, Oc, ahw⟩ := Kd.jY oQ.out
   subst ahw
   go_enter Try.func100, Try.ntmps100
   go_wp2_with (first | ((with_reducible refine dH (N := 5) rfl ?_); refine cu ?hg (N := 5) ?hd (cs := #[.int .i64 bH, .int .i64 bI, .slice OO bu.length Oc]) (t := 31) ?hr ?_; (case hd => rfl); (case hg => rfl); (case hr => first | (go_simp; done) | (go_simp; rfl)); intro jJ hg w16 hbox hb; have bF := aj.mk (Kd.pU (by (with_reducible repeat (first | apply Kd.gI | apply Kd.gG | apply Kd.iG)); exact oQ.out) hb); have dS := aj.mk (aI.below (by repeat (first | (with_reducible first | exact HI0.out | apply aI.alloc | apply aI.drewN | apply aI.drew | apply aI.iM) | exact HI0.out)) hb); have eu := aj.mk (Kept.below (S := (fun k_ => (sV k_) ∨ k_ = g)) (by repeat (first | (with_reducible first | exact HK.out | apply Kept.alloc | apply Kept.drewN | apply Kept.drew | refine Kept.setCell ?_ (.inl (.inr rfl)) _) | exact HK.out)) hb); have fM := aj.mk (aP (by repeat (first | (with_reducible first | exact HB.out | apply ak | apply ah | apply au | refine aA ?_ (aI.ge HI0.out)) | exact HB.out)) hb); have jR := aj.mk (hbox); have kD := aj.mk ((by rw [hg]; exact (by first | exact HK.out.1 | exact (show Kept w _ (fun k_ => (sV k_) ∨ k_ = g) from by repeat (first | (with_reducible first | exact HK.out | apply Kept.alloc | apply Kept.drewN | apply Kept.drew | refine Kept.setCell ?_ (.inl (.inr rfl)) _) | exact HK.out)).1) : w.heap.size ≤ jJ)); have kW := aj.mk ((by rw [hg]; exact (bf (by repeat (first | (with_reducible first | exact HB.out | apply ak | apply ah | apply au | refine aA ?_ (aI.ge HI0.out)) | exact HB.out))) : w0.heap.size ≤ jJ)); have xJ := aj.mk ((by rw [hg]; exact Nat.ne_of_lt (aI.lt (show aI w0 _ g false from by repeat (first | (with_reducible first | exact HI0.out | apply aI.alloc | apply aI.drewN | apply aI.drew | apply aI.iM) | exact HI0.out))) : g ≠ jJ)); have AO := aj.mk ((by rw [hg]; exact Nat.ne_of_gt (aI.lt (show aI w0 _ g false from by repeat (first | (with_reducible first | exact HI0.out | apply aI.alloc | apply aI.drewN | apply aI.drew | apply aI.iM) | exact HI0.out))) : jJ ≠ g)); clear oQ; clear HI0; clear HK; clear HB; have oQ := bF; have HI0 := dS; have HK := eu; have HB := fM; have kQ := jR; have EO := kD; have EW := kW; have nO := xJ; have Jl := AO; clear bF dS eu fM jR kD kW xJ AO; clear hb hbox hg) | ((with_reducible refine dH (N := 8) rfl ?_); refine cu ?hg (N := 8) ?hd (cs := #[.int .i64 0, .int .i64 0, .slice none 0 0]) (t := 31) ?hr ?_; (case hd => rfl); (case hg => rfl); (case hr => first | (go_simp; done) | (go_simp; rfl)); intro jA hg w17 hbox hb; have bF := aj.mk (Kd.pU (by (with_reducible repeat (first | apply Kd.gI | apply Kd.gG | apply Kd.iG)); exact oQ.out) hb); have dS := aj.mk (aI.below (by repeat (first | (with_reducible first | exact HI0.out | apply aI.alloc | apply aI.drewN | apply aI.drew | apply aI.iM | refine aI.far ?_ nO.out _) | exact HI0.out)) hb); have eu := aj.mk (bz (g := jJ) (o := .cells #[.int .i64 bH, .int .i64 bI, .slice OO bu.length Oc] 31 (0, 0)) (by (with_reducible repeat (first | refine aB ?_ _ | refine aF ?_ | refine aC ?_ _)); exact kQ.out) hb); have fM := aj.mk (Kept.below (S := (fun k_ => (sV k_) ∨ k_ = g)) (by repeat (first | (with_reducible first | exact HK.out | apply Kept.alloc | apply Kept.drewN | apply Kept.drew | refine Kept.setCell ?_ (.inl (.inr rfl)) _ | refine Kept.setCell ?_ (.inr EO.out) _) | exact HK.out)) hb); have jR := aj.mk (aP (by repeat (first | (with_reducible first | exact HB.out | apply ak | apply ah | apply au | refine aA ?_ (aI.ge HI0.out) | refine aA ?_ EW.out) | exact HB.out)) hb); have kD := aj.mk (hbox); have kW := aj.mk ((by rw [hg]; exact (by first | exact HK.out.1 | exact (show Kept w _ (fun k_ => (sV k_) ∨ k_ = g) from by repeat (first | (with_reducible first | exact HK.out | apply Kept.alloc | apply Kept.drewN | apply Kept.drew | refine Kept.setCell ?_ (.inl (.inr rfl)) _ | refine Kept.setCell ?_ (.inr EO.out) _) | exact HK.out)).1) : w.heap.size ≤ jA)); have xJ := aj.mk ((by rw [hg]; exact (bf (by repeat (first | (with_reducible first | exact HB.out | apply ak | apply ah | apply au | refine aA ?_ (aI.ge HI0.out) | refine aA ?_ EW.out) | exact HB.out))) : w0.heap.size ≤ jA)); have AO := aj.mk ((by rw [hg]; exact Nat.ne_of_lt (dY (g := jJ) (o := .cells #[.int .i64 bH, .int .i64 bI, .slice OO bu.length Oc] 31 (0, 0)) (by (with_reducible repeat (first | refine aB ?_ _ | refine aF ?_ | refine aC ?_ _)); exact kQ.out)) : jJ ≠ jA)); have Pn := aj.mk ((by rw [hg]; exact Nat.ne_of_gt (dY (g := jJ) (o := .cells #[.int .i64 bH, .int .i64 bI, .slice OO bu.length Oc] 31 (0, 0)) (by (with_reducible repeat (first | refine aB ?_ _ | refine aF ?_ | refine aC ?_ _)); exact kQ.out)) : jA ≠ jJ)); have yO := aj.mk ((by rw [hg]; exact Nat.ne_of_lt (aI.lt (show aI w0 _ g false from by repeat (first | (with_reducible first | exact HI0.out | apply aI.alloc | apply aI.drewN | apply aI.drew | apply aI.iM | refine aI.far ?_ nO.out _) | exact HI0.out))) : g ≠ jA)); have JP := aj.mk ((by rw [hg]; exact Nat.ne_of_gt (aI.lt (show aI w0 _ g false from by repeat (first | (with_reducible first | exact HI0.out | apply aI.alloc | apply aI.drewN | apply aI.drew | apply aI.iM | refine aI.far ?_ nO.out _) | exact HI0.out))) : jA ≠ g)); clear oQ; clear HI0; clear kQ; clear HK; clear HB; have oQ := bF; have HI0 := dS; have kQ := eu; have HK := fM; have HB := jR; have oK := kD; have VI := kW; have VK := xJ; have Az := AO; have Aw := Pn; have zo := yO; have zn := JP; clear bF dS eu fM jR kD kW xJ AO Pn yO JP; clear hb hbox hg; obtain ⟨VH, abV⟩ := HI0.out; have PM := Et VH; have PK := ay VH 0; clear VH abV; have ajh := Az.out; have aja := Aw.out; have ajg := Jl.out; have ai_ := nO.out; have afn : w17.cell? ⟨jJ, 0, none⟩ = some (.int .i64 bH) := (az kQ.out 0).trans rfl; have afm : w17.cell? ⟨jJ, 1, none⟩ = some (.int .i64 bI) := (az kQ.out 1).trans rfl; have afl : w17.cell? ⟨jJ, 2, none⟩ = some (.slice OO bu.length Oc) := (az kQ.out 2).trans rfl; have aeK := ay kQ.out 0; have aeJ := ay kQ.out 1; have aeI := ay kQ.out 2; have Yt := zn.out; have Yq := zo.out; have Xl : w17.cell? ⟨jA, 0, none⟩ = some (.int .i64 0) := (az oK.out 0).trans rfl; have Xk : w17.cell? ⟨jA, 1, none⟩ = some (.int .i64 0) := (az oK.out 1).trans rfl; have Xj : w17.cell? ⟨jA, 2, none⟩ = some (.slice none 0 0) := (az oK.out 2).trans rfl; have WR := ay oK.out 0; have WQ := ay oK.out 1; have WO := ay oK.out 2))
   refine bodyPost_ret (results_cell_row rfl _ _ jA 31 #[.int .i64 bH, .int .i64 bI, .slice OO bu.length Oc] (0, 0) _ rfl (by (with_reducible repeat (first | refine aB ?_ _ | refine aF ?_ | refine aC ?_ _)); refine fZ (cs := #[.int .i64 bH, .int .i64 bI, .slice none 0 0]) ?_ 2 _ rfl; (with_reducible repeat (first | refine aB ?_ _ | refine aF ?_ | refine aC ?_ _)); refine fZ (cs := #[.int .i64 bH, .int .i64 0, .slice none 0 0]) ?_ 1 _ rfl; (with_reducible repeat (first | refine aB ?_ _ | refine aF ?_ | refine aC ?_ _)); refine fZ (cs := #[.int .i64 0, .int .i64 0, .slice none 0 0]) ?_ 0 _ rfl; (with_reducible repeat (first | refine aB ?_ _ | refine aF ?_ | refine aC ?_ _)); refine lS ?_ zn.out _; (with_reducible repeat (first | refine aB ?_ _ | refine aF ?_ | refine aC ?_ _)); exact oK.out) Try.underlying31 rfl (by kernel_rfl)) rfl ?_
   exact ⟨_, by first | rfl | (simp [aN, aK] <;> rfl) | (simp [*, aN, aK] <;> rfl), by (with_reducible repeat (first | apply Kd.gI | apply Kd.gG | apply Kd.iG)); exact Kd.lu (Kd.oI (p := ⟨jA, 2, none⟩) (Kd.oI (p := ⟨jA, 1, none⟩) (Kd.oI (p := ⟨jA, 0, none⟩) (Kd.oI (p := ⟨g, 0, none⟩) (Kd.xx (aI.apart HI0.out oQ.out (by decide)) oK.out (by decide)) (fun _ hk => hk.1.2) (.bool a2)) (fun _ hk => hk.2) (.int .i64 bH)) (fun _ hk => hk.2) (.int .i64 bI)) (fun _ hk => hk.2) (.slice OO bu.length Oc)) (fun _ hk => hk.1.1), by repeat (first | (with_reducible first | exact HI0.out | apply aI.alloc | apply aI.drewN | apply aI.drew | apply aI.iM | refine aI.far ?_ nO.out _ | refine aI.far ?_ zo.out _) | exact HI0.out), by repeat (first | (with_reducible first | exact HB.out | apply ak | apply ah | apply au | refine aA ?_ (aI.ge HI0.out) | refine aA ?_ EW.out | refine aA ?_ VK.out) | exact HB.out), by repeat (first | (with_reducible first | exact HK.out | apply Kept.alloc | apply Kept.drewN | apply Kept.drew | refine Kept.setCell ?_ (.inl (.inr rfl)) _ | refine Kept.setCell ?_ (.inr EO.out) _ | refine Kept.setCell ?_ (.inr VI.out) _) | exact HK.out)⟩
def bQ.f (nZ : Bool) (bH : Int) (bI : Int) (bu : List Int) (mQ : Int) (mP : Int) (kS : List Int) : Option (Int × Int × List Int × Bool) := (jl.f bH bI bu mQ mP kS).bind fun vY => ((dI.f nZ vY.1 vY.2.1 vY.2.2.1 vY.2.2.2.1 vY.2.2.2.2).bind fun rF => ((jM.f bH bI bu).bind fun qE => ((jl.f rF.1 rF.2.1 rF.2.2.1 qE.1 qE.2.1 qE.2.2).bind fun jc => ((dI.f rF.2.2.2 jc.1 jc.2.1 jc.2.2.1 jc.2.2.2.1 jc.2.2.2.2).bind fun iZ => (some (iZ.1, iZ.2.1, iZ.2.2.1, iZ.2.2.2))))))
def bQ.T1 : Bool × List (List Nat × List Nat) := (true, [([], []), ([], []), ([], []), ([], []), ([2, 3], [2, 3]), ([4], [4]), ([4], [4]), ([4], [4]), ([1, 5, 6, 7, 4], [1, 5, 6, 7]), ([], []), ([9, 8], [9]), ([8, 10, 10], [8, 10]), ([11], [11]), ([11], [11]), ([11], [11]), ([0, 12, 13, 14, 11], [0, 12, 13, 14]), ([15, 15, 0, 1, 2, 3, 4, 5, 6, 7, 8, 9, 10, 11, 12, 13, 14, 15], [15])])
def bQ.B1 : List Nat := [0, 0, 0, 0, 12, 28, 28, 28, 254, 0, 1022, 2046, 4094, 4094, 4094, 32767, 65535]
theorem bQ.VT : qh .any (opsOf Try.f103 1) = bQ.T1 := by kernel_rfl
theorem bQ.P5 : tJ bQ.T1.2 bQ.B1 = true := by kernel_rfl
theorem bQ.calls (g : Nat) (nZ : Bool) (bH : Int) (bI : Int) (eG : Option Addr) (eH : Nat) (bu : List Int) (mQ : Int) (mP : Int) (rX : Option Addr) (uw : Nat) (kS : List Int) (r1 : Int) (r2 : Int) (r3 : List Int) (r4 : Bool) (w0 w : World) (hI : aI w0 w g nZ) (hB : Below w0.heap.size w0 w) (m_ : Kd.C (Kd.int .i64) w eG bu.length bu) (nS : bu.length ≤ eH) (Kq : ∀ ad, eG = some ad → 0 < bu.length → ad.block ≠ g) (JZ : Kd.C (Kd.int .i64) w rX kS.length kS) (Ku : kS.length ≤ uw) (Ko : ∀ ad, rX = some ad → 0 < kS.length → ad.block ≠ g) (h : bQ.f nZ bH bI bu mQ mP kS = some (r1, r2, r3, r4)) :
 Calls Try.prog 103 #[.pointer (some ⟨g, 0, none⟩), .agg #[.int .i64 bH, .int .i64 bI, .slice eG bu.length eH], .agg #[.int .i64 mQ, .int .i64 mP, .slice rX kS.length uw]] w fun e w' => ∃ Jr : Value, e = .returned (.agg #[.int .i64 r1, .int .i64 r2, Jr]) ∧ Kd.R (Kd.int .i64) 22 w' w.heap.size (fun _ => True) Jr r3 ∧ aI w0 w' g r4 ∧ Below w0.heap.size w0 w' ∧ bC w w' g none := by
 have Ig := Try.underlying31
 have tq := aj.mk m_
 have wz := aj.mk nS
 clear m_ nS
 have adt := aj.mk JZ
 have adD := aj.mk Ku
 clear JZ Ku
 have HI0 := aj.mk hI
 have HK := aj.mk (bC.refl w g none)
 have HL := aj.mk hB.size
 clear hI
 have HW0 := aj.mk hB.size
 have HB := aj.mk hB
 clear hB
 have H : ((jl.f bH bI bu mQ mP kS).bind fun vY => ((dI.f nZ vY.1 vY.2.1 vY.2.2.1 vY.2.2.2.1 vY.2.2.2.2).bind fun rF => ((jM.f bH bI bu).bind fun qE => ((jl.f rF.1 rF.2.1 rF.2.2.1 qE.1 qE.2.1 qE.2.2).bind fun jc => ((dI.f rF.2.2.2 jc.1 jc.2.1 jc.2.2.1 jc.2.2.2.1 jc.2.2.2.2).bind fun iZ => (some (iZ.1, iZ.2.1, iZ.2.2.1, iZ.2.2.2))))))) = some (r1, r2, r3, r4) := h
 clear h
 replace H := Option.bind_eq_some_iff.mp H
 obtain ⟨⟨t106, t107, t108, t111, t112⟩, Lh, H⟩ := H
 replace H : ((dI.f nZ t106 t107 t108 t111 t112).bind fun rF => ((jM.f bH bI bu).bind fun qE => ((jl.f rF.1 rF.2.1 rF.2.2.1 qE.1 qE.2.1 qE.2.2).bind fun jc => ((dI.f rF.2.2.2 jc.1 jc.2.1 jc.2.2.1 jc.2.2.2.1 jc.2.2.2.2).bind fun iZ => (some (iZ.1, iZ.2.1, iZ.2.2.1, iZ.2.2.2)))))) = some (r1, r2, r3, r4) := H
 have A4 := aj.mk Lh
 clear Lh
 replace H := Option.bind_eq_some_iff.mp H
 obtain ⟨⟨t113, t114, t115, t118⟩, YT, H⟩ := H
 replace H : ((jM.f bH bI bu).bind fun qE => ((jl.f t113 t114 t115 qE.1 qE.2.1 qE.2.2).bind fun jc => ((dI.f t118 jc.1 jc.2.1 jc.2.2.1 jc.2.2.2.1 jc.2.2.2.2).bind fun iZ => (some (iZ.1, iZ.2.1, iZ.2.2.1, iZ.2.2.2))))) = some (r1, r2, r3, r4) := H
 have A5 := aj.mk YT
 clear YT
 replace H := Option.bind_eq_some_iff.mp H
 obtain ⟨⟨t119, t120, t121⟩, YS, H⟩ := H
 replace H : ((jl.f t113 t114 t115 t119 t120 t121).bind fun jc => ((dI.f t118 jc.1 jc.2.1 jc.2.2.1 jc.2.2.2.1 jc.2.2.2.2).bind fun iZ => (some (iZ.1, iZ.2.1, iZ.2.2.1, iZ.2.2.2)))) = some (r1, r2, r3, r4) := H
 have A6 := aj.mk YS
 clear YS
 replace H := Option.bind_eq_some_iff.mp H
 obtain ⟨⟨t124, t125, t126, t129, t130⟩, YR, H⟩ := H
 replace H : ((dI.f t118 t124 t125 t126 t129 t130).bind fun iZ => (some (iZ.1, iZ.2.1, iZ.2.2.1, iZ.2.2.2))) = some (r1, r2, r3, r4) := H
 have A7 := aj.mk YR
 clear YR
 replace H := Option.bind_eq_some_iff.mp H
 obtain ⟨⟨t131, t132, t133, t136⟩, A80, H⟩ := H
 replace H : (some (t131, t132, t133, t136)) = some (r1, r2, r3, r4) := H
 have A8 := aj.mk A80
 clear A80
 simp only [Option.some.injEq, Prod.mk.injEq] at H
 obtain ⟨rfl, rfl, rfl, rfl⟩ := H
 go_enter Try.func103, Try.ntmps103
 try go_wp2_with (first | ((with_reducible refine dH (N := 4) rfl ?_); refine cu ?hg (N := 4) ?hd (cs := #[.int .i64 bH, .int .i64 bI, .slice eG bu.length eH]) (t := 31) ?hr ?_; (case hd => rfl); (case hg => rfl); (case hr => first | (go_simp; done) | (go_simp; rfl)); intro lJ hg w9 hbox hb; have bF := aj.mk (aI.below (by repeat (first | (with_reducible first | exact HI0.out | apply aI.alloc | apply aI.drewN | apply aI.drew | apply aI.iM) | exact HI0.out)) hb); have dS := aj.mk (bC.trans (by repeat (first | (with_reducible first | exact HK.out | apply bC.qg | apply dL | apply dR | apply dM) | exact HK.out)) (bC.of_below hb g none) (.inl rfl)); have eu := aj.mk (aP (by repeat (first | (with_reducible first | exact HB.out | apply ak | apply ah | apply au | refine aA ?_ (aI.ge HI0.out)) | exact HB.out)) hb); have fM := aj.mk (hbox); have jR := aj.mk ((by rw [hg]; exact (jw (w := w) (g := g) (row := none) (by repeat (first | (with_reducible first | exact HK.out | apply bC.qg | apply dL | apply dR | apply dM) | exact HK.out))) : w.heap.size ≤ lJ)); have kD := aj.mk ((Nat.le_trans HW0.out (by rw [hg]; exact (jw (w := w) (g := g) (row := none) (by repeat (first | (with_reducible first | exact HK.out | apply bC.qg | apply dL | apply dR | apply dM) | exact HK.out))) : w.heap.size ≤ lJ) : w0.heap.size ≤ lJ)); have kW := aj.mk ((by rw [hg]; exact Nat.ne_of_lt (aI.lt (show aI w0 _ g nZ from by repeat (first | (with_reducible first | exact HI0.out | apply aI.alloc | apply aI.drewN | apply aI.drew | apply aI.iM) | exact HI0.out))) : g ≠ lJ)); have xJ := aj.mk ((by rw [hg]; exact Nat.ne_of_gt (aI.lt (show aI w0 _ g nZ from by repeat (first | (with_reducible first | exact HI0.out | apply aI.alloc | apply aI.drewN | apply aI.drew | apply aI.iM) | exact HI0.out))) : lJ ≠ g)); clear HI0; clear HK; clear HB; have HI0 := bF; have HK := dS; have HB := eu; have fA := fM; have mJ := jR; have BC := kD; have lT := kW; have Qm := xJ; clear bF dS eu fM jR kD kW xJ; clear hb hbox hg) | ((with_reducible refine dH (N := 5) rfl ?_); refine cu ?hg (N := 5) ?hd (cs := #[.int .i64 mQ, .int .i64 mP, .slice rX kS.length uw]) (t := 31) ?hr ?_; (case hd => rfl); (case hg => rfl); (case hr => first | (go_simp; done) | (go_simp; rfl)); intro nU hg w10 hbox hb; have bF := aj.mk (aI.below (by repeat (first | (with_reducible first | exact HI0.out | apply aI.alloc | apply aI.drewN | apply aI.drew | apply aI.iM | refine aI.far ?_ lT.out _) | exact HI0.out)) hb); have dS := aj.mk (bz (g := lJ) (o := .cells #[.int .i64 bH, .int .i64 bI, .slice eG bu.length eH] 31 (0, 0)) (by (with_reducible repeat (first | refine aB ?_ _ | refine aF ?_ | refine aC ?_ _)); exact fA.out) hb); have eu := aj.mk (bC.trans (by repeat (first | (with_reducible first | exact HK.out | apply bC.qg | apply dL | apply dR | apply dM | refine bG ?_ mJ.out _) | exact HK.out)) (bC.of_below hb g none) (.inl rfl)); have fM := aj.mk (aP (by repeat (first | (with_reducible first | exact HB.out | apply ak | apply ah | apply au | refine aA ?_ (aI.ge HI0.out) | refine aA ?_ BC.out) | exact HB.out)) hb); have jR := aj.mk (hbox); have kD := aj.mk ((by rw [hg]; exact (jw (w := w) (g := g) (row := none) (by repeat (first | (with_reducible first | exact HK.out | apply bC.qg | apply dL | apply dR | apply dM | refine bG ?_ mJ.out _) | exact HK.out))) : w.heap.size ≤ nU)); have kW := aj.mk ((Nat.le_trans HW0.out (by rw [hg]; exact (jw (w := w) (g := g) (row := none) (by repeat (first | (with_reducible first | exact HK.out | apply bC.qg | apply dL | apply dR | apply dM | refine bG ?_ mJ.out _) | exact HK.out))) : w.heap.size ≤ nU) : w0.heap.size ≤ nU)); have xJ := aj.mk ((by rw [hg]; exact Nat.ne_of_lt (dY (g := lJ) (o := .cells #[.int .i64 bH, .int .i64 bI, .slice eG bu.length eH] 31 (0, 0)) (by (with_reducible repeat (first | refine aB ?_ _ | refine aF ?_ | refine aC ?_ _)); exact fA.out)) : lJ ≠ nU)); have AO := aj.mk ((by rw [hg]; exact Nat.ne_of_gt (dY (g := lJ) (o := .cells #[.int .i64 bH, .int .i64 bI, .slice eG bu.length eH] 31 (0, 0)) (by (with_reducible repeat (first | refine aB ?_ _ | refine aF ?_ | refine aC ?_ _)); exact fA.out)) : nU ≠ lJ)); have Pn := aj.mk ((by rw [hg]; exact Nat.ne_of_lt (aI.lt (show aI w0 _ g nZ from by repeat (first | (with_reducible first | exact HI0.out | apply aI.alloc | apply aI.drewN | apply aI.drew | apply aI.iM | refine aI.far ?_ lT.out _) | exact HI0.out))) : g ≠ nU)); have yO := aj.mk ((by rw [hg]; exact Nat.ne_of_gt (aI.lt (show aI w0 _ g nZ from by repeat (first | (with_reducible first | exact HI0.out | apply aI.alloc | apply aI.drewN | apply aI.drew | apply aI.iM | refine aI.far ?_ lT.out _) | exact HI0.out))) : nU ≠ g)); clear HI0; clear fA; clear HK; clear HB; have HI0 := bF; have fA := dS; have HK := eu; have HB := fM; have fE := jR; have oJ := kD; have EU := kW; have aa7 := xJ; have aa6 := AO; have pV := Pn; have Ql := yO; clear bF dS eu fM jR kD kW xJ AO Pn yO; clear hb hbox hg) | ((with_reducible refine dH (N := 6) rfl ?_); refine cu ?hg (N := 6) ?hd (cs := #[.int .i64 0, .int .i64 0, .slice none 0 0]) (t := 31) ?hr ?_; (case hd => rfl); (case hg => rfl); (case hr => first | (go_simp; done) | (go_simp; rfl)); intro gq hg BH hbox hb; have bF := aj.mk (aI.below (by repeat (first | (with_reducible first | exact HI0.out | apply aI.alloc | apply aI.drewN | apply aI.drew | apply aI.iM | refine aI.far ?_ lT.out _ | refine aI.far ?_ pV.out _) | exact HI0.out)) hb); have dS := aj.mk (bz (g := lJ) (o := .cells #[.int .i64 bH, .int .i64 bI, .slice eG bu.length eH] 31 (0, 0)) (by (with_reducible repeat (first | refine aB ?_ _ | refine aF ?_ | refine aC ?_ _)); exact fA.out) hb); have eu := aj.mk (bz (g := nU) (o := .cells #[.int .i64 mQ, .int .i64 mP, .slice rX kS.length uw] 31 (0, 0)) (by (with_reducible repeat (first | refine aB ?_ _ | refine aF ?_ | refine aC ?_ _)); exact fE.out) hb); have fM := aj.mk (bC.trans (by repeat (first | (with_reducible first | exact HK.out | apply bC.qg | apply dL | apply dR | apply dM | refine bG ?_ mJ.out _ | refine bG ?_ oJ.out _) | exact HK.out)) (bC.of_below hb g none) (.inl rfl)); have jR := aj.mk (aP (by repeat (first | (with_reducible first | exact HB.out | apply ak | apply ah | apply au | refine aA ?_ (aI.ge HI0.out) | refine aA ?_ BC.out | refine aA ?_ EU.out) | exact HB.out)) hb); have kD := aj.mk (hbox); have kW := aj.mk ((by rw [hg]; exact (jw (w := w) (g := g) (row := none) (by repeat (first | (with_reducible first | exact HK.out | apply bC.qg | apply dL | apply dR | apply dM | refine bG ?_ mJ.out _ | refine bG ?_ oJ.out _) | exact HK.out))) : w.heap.size ≤ gq)); have xJ := aj.mk ((Nat.le_trans HW0.out (by rw [hg]; exact (jw (w := w) (g := g) (row := none) (by repeat (first | (with_reducible first | exact HK.out | apply bC.qg | apply dL | apply dR | apply dM | refine bG ?_ mJ.out _ | refine bG ?_ oJ.out _) | exact HK.out))) : w.heap.size ≤ gq) : w0.heap.size ≤ gq)); have AO := aj.mk ((by rw [hg]; exact Nat.ne_of_lt (dY (g := lJ) (o := .cells #[.int .i64 bH, .int .i64 bI, .slice eG bu.length eH] 31 (0, 0)) (by (with_reducible repeat (first | refine aB ?_ _ | refine aF ?_ | refine aC ?_ _)); exact fA.out)) : lJ ≠ gq)); have Pn := aj.mk ((by rw [hg]; exact Nat.ne_of_gt (dY (g := lJ) (o := .cells #[.int .i64 bH, .int .i64 bI, .slice eG bu.length eH] 31 (0, 0)) (by (with_reducible repeat (first | refine aB ?_ _ | refine aF ?_ | refine aC ?_ _)); exact fA.out)) : gq ≠ lJ)); have yO := aj.mk ((by rw [hg]; exact Nat.ne_of_lt (dY (g := nU) (o := .cells #[.int .i64 mQ, .int .i64 mP, .slice rX kS.length uw] 31 (0, 0)) (by (with_reducible repeat (first | refine aB ?_ _ | refine aF ?_ | refine aC ?_ _)); exact fE.out)) : nU ≠ gq)); have JP := aj.mk ((by rw [hg]; exact Nat.ne_of_gt (dY (g := nU) (o := .cells #[.int .i64 mQ, .int .i64 mP, .slice rX kS.length uw] 31 (0, 0)) (by (with_reducible repeat (first | refine aB ?_ _ | refine aF ?_ | refine aC ?_ _)); exact fE.out)) : gq ≠ nU)); have abr := aj.mk ((by rw [hg]; exact Nat.ne_of_lt (aI.lt (show aI w0 _ g nZ from by repeat (first | (with_reducible first | exact HI0.out | apply aI.alloc | apply aI.drewN | apply aI.drew | apply aI.iM | refine aI.far ?_ lT.out _ | refine aI.far ?_ pV.out _) | exact HI0.out))) : g ≠ gq)); have abq := aj.mk ((by rw [hg]; exact Nat.ne_of_gt (aI.lt (show aI w0 _ g nZ from by repeat (first | (with_reducible first | exact HI0.out | apply aI.alloc | apply aI.drewN | apply aI.drew | apply aI.iM | refine aI.far ?_ lT.out _ | refine aI.far ?_ pV.out _) | exact HI0.out))) : gq ≠ g)); clear HI0; clear fA; clear fE; clear HK; clear HB; have HI0 := bF; have fA := dS; have fE := eu; have HK := fM; have HB := jR; have jg := kD; have rG := kW; have GU := xJ; have iK := AO; have Au := Pn; have iJ := yO; have Ar := JP; have xA := abr; have Qk := abq; clear bF dS eu fM jR kD kW xJ AO Pn yO JP abr abq; clear hb hbox hg))
 have bF := aj.mk (aF fA.out)
 have dS := aj.mk (aF fE.out)
 have eu := aj.mk (aF jg.out)
 have fM := aj.mk (aI.drew HI0.out)
 have jR := aj.mk (dR HK.out)
 have kD := aj.mk (au HB.out)
 clear fA
 clear fE
 clear jg
 clear HI0
 clear HK
 clear HB
 have fA := bF
 have fE := dS
 have jg := eu
 have HI0 := fM
 have HK := jR
 have HB := kD
 clear bF dS eu fM jR kD
 refine Hl (n := 17) (S := fun w' => w'.cell? ⟨lJ, 0, none⟩ = some (.int .i64 bH) ∧ w'.cell? ⟨lJ, 1, none⟩ = some (.int .i64 bI) ∧ w'.cell? ⟨lJ, 2, none⟩ = some (.slice eG bu.length eH) ∧ w'.cell? ⟨nU, 0, none⟩ = some (.int .i64 mQ) ∧ w'.cell? ⟨nU, 1, none⟩ = some (.int .i64 mP) ∧ w'.cell? ⟨nU, 2, none⟩ = some (.slice rX kS.length uw)) (ds := []) #[false, false, false, false, false, false, false, false, false, false, false, false, false, false, false, false, false] (by kernel_rfl) rfl rfl ⟨(az fA.out 0).trans rfl, (az fA.out 1).trans rfl, (az fA.out 2).trans rfl, (az fE.out 0).trans rfl, (az fE.out 1).trans rfl, (az fE.out 2).trans rfl⟩ (fun hHeld => ?_); refine wL bQ.VT bQ.P5 (fun kP La => ?_)
 generalize BH.drew = w12 at fA fE jg HI0 HK HB hHeld ⊢
 refine gm (i := 0) (N := some 7) (v := ?_) (a' := ?_) #[true, false, false, false, false, false, false, false, false, false, false, false, false, false, false, false, false] rfl rfl (dW kP.out (by kernel_rfl)) (fun _ _ _ h => h) (Or.inl ⟨by rfl, ?_⟩) ?_ ?_
 rotate_left
 · intro w'
   go_simp
   with_reducible rfl
 rotate_left
 · simp only [Act.put, List.setIfInBounds_toArray, List.set_cons_zero, List.set_cons_succ, dA, dB]
   rfl
 refine gm (i := 1) (N := some 8) (v := ?_) (a' := ?_) #[true, true, false, false, false, false, false, false, false, false, false, false, false, false, false, false, false] rfl rfl (dW kP.out (by kernel_rfl)) (fun _ _ _ h => h) (Or.inl ⟨by rfl, ?_⟩) ?_ ?_
 rotate_left
 · intro w'
   go_simp
   with_reducible rfl
 rotate_left
 · simp only [Act.put, List.setIfInBounds_toArray, List.set_cons_zero, List.set_cons_succ, dA, dB]
   rfl
 refine qN (i := 2) (N := some 9) (v := ?_) (a' := ?_) #[true, true, true, false, false, false, false, false, false, false, false, false, false, false, false, false, false] rfl rfl (iL kP.out La.out (by kernel_rfl)) (fun _ _ _ h => h) (Or.inl ⟨by rfl, ?_⟩) hHeld ?_ ?_
 rotate_left
 · rintro w' ⟨s0, s1, s2, s3, s4, s5⟩
   go_simp
   with_reducible rfl
 rotate_left
 · simp only [Act.put, List.setIfInBounds_toArray, List.set_cons_zero, List.set_cons_succ, dA, dB]
   rfl
 refine qN (i := 3) (N := some 10) (v := ?_) (a' := ?_) #[true, true, true, true, false, false, false, false, false, false, false, false, false, false, false, false, false] rfl rfl (iL kP.out La.out (by kernel_rfl)) (fun _ _ _ h => h) (Or.inl ⟨by rfl, ?_⟩) hHeld ?_ ?_
 rotate_left
 · rintro w' ⟨s0, s1, s2, s3, s4, s5⟩
   go_simp
   with_reducible rfl
 rotate_left
 · simp only [Act.put, List.setIfInBounds_toArray, List.set_cons_zero, List.set_cons_succ, dA, dB]
   rfl
 refine qN (i := 9) (N := some 16) (v := ?_) (a' := ?_) #[true, true, true, true, false, false, false, false, false, true, false, false, false, false, false, false, false] rfl rfl (iL kP.out La.out (by kernel_rfl)) (fun _ _ _ h => h) (Or.inl ⟨by rfl, ?_⟩) hHeld ?_ ?_
 rotate_left
 · rintro w' ⟨s0, s1, s2, s3, s4, s5⟩
   go_simp
   with_reducible rfl
 rotate_left
 · simp only [Act.put, List.setIfInBounds_toArray, List.set_cons_zero, List.set_cons_succ, dA, dB]
   rfl
 refine Dw (i := 4) (N := some 11) #[true, true, true, true, true, false, false, false, false, true, false, false, false, false, false, false, false] rfl rfl (oN kP.out (by kernel_rfl)) (by decide) (fun K hK => ?_)
 refine xN Try.func101 (by kernel_rfl) rfl #[.agg #[.int .i64 bH, .int .i64 bI, .slice eG bu.length eH], .agg #[.int .i64 mQ, .int .i64 mP, .slice rX kS.length uw]] (by rfl) rfl rfl (by (try simp only [List.map_toArray, List.map_cons, List.map_nil]); first | done | rfl | (simp only [List.length_drop, List.length_take]; rfl)) ?_
 with_reducible refine (jl.calls bH bI _ _ bu mQ mP _ _ kS t106 t107 t108 t111 t112 _ ?fU ?fQ ?qc ?uU A4.out).mono ?_
 (case fU => exact Kd.OL 0 tq.out (by repeat (first | (with_reducible first | exact HK.out | apply bC.qg | apply dL | apply dR | apply dM | refine bG ?_ mJ.out _ | refine bG ?_ oJ.out _ | refine bG ?_ rG.out _) | exact HK.out)) Kq)
 (case fQ => exact wz.out)
 (case qc => exact Kd.OL 0 adt.out (by repeat (first | (with_reducible first | exact HK.out | apply bC.qg | apply dL | apply dR | apply dM | refine bG ?_ mJ.out _ | refine bG ?_ oJ.out _ | refine bG ?_ rG.out _) | exact HK.out)) Ko)
 (case uU => exact adD.out)
 rintro e SY ⟨v109, rfl, ho0, hb⟩
 refine ⟨_, rfl, ?_⟩
 have bF := aj.mk (Kd.pR ho0 (jw (w := w) (g := g) (row := none) (by repeat (first | (with_reducible first | exact HK.out | apply bC.qg | apply dL | apply dR | apply dM | refine bG ?_ mJ.out _ | refine bG ?_ oJ.out _ | refine bG ?_ rG.out _) | exact HK.out))))
 have dS := aj.mk (aI.below (by repeat (first | (with_reducible first | exact HI0.out | apply aI.alloc | apply aI.drewN | apply aI.drew | apply aI.iM | refine aI.far ?_ lT.out _ | refine aI.far ?_ pV.out _ | refine aI.far ?_ xA.out _) | exact HI0.out)) hb)
 have eu := aj.mk (bz (g := lJ) (o := .cells #[.int .i64 bH, .int .i64 bI, .slice eG bu.length eH] 31 (0, 0)) (by (with_reducible repeat (first | refine aB ?_ _ | refine aF ?_ | refine aC ?_ _)); exact fA.out) hb)
 have fM := aj.mk (bz (g := nU) (o := .cells #[.int .i64 mQ, .int .i64 mP, .slice rX kS.length uw] 31 (0, 0)) (by (with_reducible repeat (first | refine aB ?_ _ | refine aF ?_ | refine aC ?_ _)); exact fE.out) hb)
 have jR := aj.mk (bz (g := gq) (o := .cells #[.int .i64 0, .int .i64 0, .slice none 0 0] 31 (0, 0)) (by (with_reducible repeat (first | refine aB ?_ _ | refine aF ?_ | refine aC ?_ _)); exact jg.out) hb)
 have kD := aj.mk (bC.trans (by repeat (first | (with_reducible first | exact HK.out | apply bC.qg | apply dL | apply dR | apply dM | refine bG ?_ mJ.out _ | refine bG ?_ oJ.out _ | refine bG ?_ rG.out _) | exact HK.out)) (bC.of_below hb g none) (.inl rfl))
 have kW := aj.mk (aP (by repeat (first | (with_reducible first | exact HB.out | apply ak | apply ah | apply au | refine aA ?_ (aI.ge HI0.out) | refine aA ?_ BC.out | refine aA ?_ EU.out | refine aA ?_ GU.out) | exact HB.out)) hb)
 clear HI0
 clear fA
 clear fE
 clear jg
 clear HK
 clear HB
 have Bq := bF
 have HI0 := dS
 have fA := eu
 have fE := fM
 have jg := jR
 have HK := kD
 have HB := kW
 clear bF dS eu fM jR kD kW
 (try clear hb)
 (try clear hb2)
 (try clear hk)
 (try clear hi)
 (try clear ho0)
 obtain ⟨aaQ, Z4, ab5⟩ := Kd.jY Bq.out
 (first | subst ab5 | (injection ab5 with KA UG Kz; have UF := KA.symm; have UE := Kz.symm; clear KA UG Kz; subst UF; subst UE))
 refine hK.out _ _ ⟨(az fA.out 0).trans rfl, (az fA.out 1).trans rfl, (az fA.out 2).trans rfl, (az fE.out 0).trans rfl, (az fE.out 1).trans rfl, (az fE.out 2).trans rfl⟩ (fun hHeld => ?_)
 clear hK K
 refine xI (a' := ?_) ?_ ?_
 rotate_left
 · show Act.put _ (some 11) _ = _
   simp only [Act.put, List.setIfInBounds_toArray, List.set_cons_zero, List.set_cons_succ, dA, dB]
   rfl
 refine gm (i := 5) (N := some 12) (v := ?_) (a' := ?_) #[true, true, true, true, true, true, false, false, false, true, false, false, false, false, false, false, false] rfl rfl (dW kP.out (by kernel_rfl)) (fun _ _ _ h => h) (Or.inl ⟨by rfl, ?_⟩) ?_ ?_
 rotate_left
 · intro w'
   go_simp
   with_reducible rfl
 rotate_left
 · simp only [Act.put, List.setIfInBounds_toArray, List.set_cons_zero, List.set_cons_succ, dA, dB]
   rfl
 refine gm (i := 6) (N := some 13) (v := ?_) (a' := ?_) #[true, true, true, true, true, true, true, false, false, true, false, false, false, false, false, false, false] rfl rfl (dW kP.out (by kernel_rfl)) (fun _ _ _ h => h) (Or.inl ⟨by rfl, ?_⟩) ?_ ?_
 rotate_left
 · intro w'
   go_simp
   with_reducible rfl
 rotate_left
 · simp only [Act.put, List.setIfInBounds_toArray, List.set_cons_zero, List.set_cons_succ, dA, dB]
   rfl
 refine gm (i := 7) (N := some 14) (v := ?_) (a' := ?_) #[true, true, true, true, true, true, true, true, false, true, false, false, false, false, false, false, false] rfl rfl (dW kP.out (by kernel_rfl)) (fun _ _ _ h => h) (Or.inl ⟨by rfl, ?_⟩) ?_ ?_
 rotate_left
 · intro w'
   go_simp
   with_reducible rfl
 rotate_left
 · simp only [Act.put, List.setIfInBounds_toArray, List.set_cons_zero, List.set_cons_succ, dA, dB]
   rfl
 refine Dw (i := 8) (N := some 15) #[true, true, true, true, true, true, true, true, true, true, false, false, false, false, false, false, false] rfl rfl (oN kP.out (by kernel_rfl)) (by decide) (fun K hK => ?_)
 refine xN Try.func100 (by kernel_rfl) rfl #[.pointer (some ⟨g, 0, none⟩), .agg #[.int .i64 t106, .int .i64 t107, .slice aaQ t108.length Z4], .bool t111, .int .i64 t112] (by rfl) rfl rfl (by (try simp only [List.map_toArray, List.map_cons, List.map_nil]); first | done | rfl | (simp only [List.length_drop, List.length_take]; rfl)) ?_
 with_reducible refine (dI.calls g nZ t106 t107 (fun k_ => some k_ = (.slice aaQ t108.length Z4 : Value).ownBlock) (.slice aaQ t108.length Z4) t108 t111 t112 t113 t114 t115 t118 w0 _ ?fU ?fQ ?qc A5.out).mono ?_
 (case fU => repeat (first | (with_reducible first | exact HI0.out | apply aI.alloc | apply aI.drewN | apply aI.drew | apply aI.iM | refine aI.far ?_ lT.out _ | refine aI.far ?_ pV.out _ | refine aI.far ?_ xA.out _) | exact HI0.out))
 (case fQ => repeat (first | (with_reducible first | exact HB.out | apply ak | apply ah | apply au | refine aA ?_ (aI.ge HI0.out) | refine aA ?_ BC.out | refine aA ?_ EU.out | refine aA ?_ GU.out) | exact HB.out))
 (case qc => exact Kd.pR (Kd.Qe rfl Bq.out) HL.out)
 rintro e w15 ⟨ak9, rfl, ho0, hi, hb, hkp⟩
 refine ⟨_, rfl, ?_⟩
 have bF := aj.mk (hi)
 have dS := aj.mk (sS (by (with_reducible repeat (first | refine aB ?_ _ | refine aF ?_ | refine aC ?_ _)); exact fA.out) hkp (fun hs_ => Or.elim hs_ (fun hs_ => (fun e_ => (Kd.Jj Bq.out fA.out (by decide)) e_) hs_) (fun e_ => Qm.out e_)))
 have eu := aj.mk (sS (by (with_reducible repeat (first | refine aB ?_ _ | refine aF ?_ | refine aC ?_ _)); exact fE.out) hkp (fun hs_ => Or.elim hs_ (fun hs_ => (fun e_ => (Kd.Jj Bq.out fE.out (by decide)) e_) hs_) (fun e_ => Ql.out e_)))
 have fM := aj.mk (sS (by (with_reducible repeat (first | refine aB ?_ _ | refine aF ?_ | refine aC ?_ _)); exact jg.out) hkp (fun hs_ => Or.elim hs_ (fun hs_ => (fun e_ => (Kd.Jj Bq.out jg.out (by decide)) e_) hs_) (fun e_ => Qk.out e_)))
 have jR := aj.mk (Kd.lu (ok' := fun k_ => True) (Kd.Qg (d := (Kd.int .i64)) (b := w0.heap.size) (b' := w.heap.size) (fun _ _ _ _ h_ => h_) ho0 (fun k_ e_ => Or.elim (ho0.1 k_ e_) (fun hs_ => (fun e_ => Kd.yj Bq.out k_ e_.symm) hs_) (fun Ul => Nat.le_trans (jw (w := w) (g := g) (row := none) (by repeat (first | (with_reducible first | exact HK.out | apply bC.qg | apply dL | apply dR | apply dM | refine bG ?_ mJ.out _ | refine bG ?_ oJ.out _ | refine bG ?_ rG.out _) | exact HK.out))) Ul))) (fun k_ J6 => trivial))
 have kD := aj.mk (Kept.Yp (by repeat (first | (with_reducible first | exact HK.out | apply bC.qg | apply dL | apply dR | apply dM | refine bG ?_ mJ.out _ | refine bG ?_ oJ.out _ | refine bG ?_ rG.out _) | exact HK.out)) hkp (fun k_ hs_ => Or.elim hs_ (fun hs_ => (fun e_ => .inr (Kd.yj Bq.out k_ e_.symm)) hs_) (fun e_ => .inl e_)))
 have kW := aj.mk (hb)
 clear HI0
 clear fA
 clear fE
 clear jg
 clear HK
 clear HB
 clear Bq
 have HI0 := bF
 have fA := dS
 have fE := eu
 have jg := fM
 have oU := jR
 have HK := kD
 have HB := kW
 clear bF dS eu fM jR kD kW
 (try clear hb)
 (try clear hkp)
 (try clear ho0)
 refine hK.out _ _ ⟨(az fA.out 0).trans rfl, (az fA.out 1).trans rfl, (az fA.out 2).trans rfl, (az fE.out 0).trans rfl, (az fE.out 1).trans rfl, (az fE.out 2).trans rfl⟩ (fun hHeld => ?_)
 clear hK K
 refine xI (a' := ?_) ?_ ?_
 rotate_left
 · show Act.put _ (some 15) _ = _
   simp only [Act.put, List.setIfInBounds_toArray, List.set_cons_zero, List.set_cons_succ, dA, dB]
   rfl
 refine Dw (i := 10) (N := some 17) #[true, true, true, true, true, true, true, true, true, true, true, false, false, false, false, false, false] rfl rfl (oN kP.out (by kernel_rfl)) (by decide) (fun K hK => ?_)
 refine xN Try.func77 (by kernel_rfl) rfl #[.agg #[.int .i64 bH, .int .i64 bI, .slice eG bu.length eH]] (by rfl) rfl rfl (by (try simp only [List.map_toArray, List.map_cons, List.map_nil]); first | done | rfl | (simp only [List.length_drop, List.length_take]; rfl)) ?_
 with_reducible refine (jM.calls bH bI _ _ bu t119 t120 t121 _ ?fU ?fQ A6.out).mono ?_
 (case fU => exact Kd.OL 0 tq.out (by repeat (first | (with_reducible first | exact HK.out | apply bC.qg | apply dL | apply dR | apply dM | refine bG ?_ mJ.out _ | refine bG ?_ oJ.out _ | refine bG ?_ rG.out _) | exact HK.out)) Kq)
 (case fQ => exact wz.out)
 rintro e w16 ⟨ak8, rfl, ho0, hb⟩
 refine ⟨_, rfl, ?_⟩
 have bF := aj.mk (Kd.EK (by (with_reducible repeat (first | apply Kd.gI | apply Kd.gG | apply Kd.iG)); exact oU.out) (Kd.yj ho0) hb)
 have dS := aj.mk (Kd.pR (Kd.OD ho0 (Kd.Vz (by (with_reducible repeat (first | apply Kd.gI | apply Kd.gG | apply Kd.iG)); exact oU.out))) (jw (w := w) (g := g) (row := none) (by repeat (first | (with_reducible first | exact HK.out | apply bC.qg | apply dL | apply dR | apply dM | refine bG ?_ mJ.out _ | refine bG ?_ oJ.out _ | refine bG ?_ rG.out _) | exact HK.out))))
 have eu := aj.mk (aI.below (by repeat (first | (with_reducible first | exact HI0.out | apply aI.alloc | apply aI.drewN | apply aI.drew | apply aI.iM | refine aI.far ?_ lT.out _ | refine aI.far ?_ pV.out _ | refine aI.far ?_ xA.out _) | exact HI0.out)) hb)
 have fM := aj.mk (bz (g := lJ) (o := .cells #[.int .i64 bH, .int .i64 bI, .slice eG bu.length eH] 31 (0, 0)) (by (with_reducible repeat (first | refine aB ?_ _ | refine aF ?_ | refine aC ?_ _)); exact fA.out) hb)
 have jR := aj.mk (bz (g := nU) (o := .cells #[.int .i64 mQ, .int .i64 mP, .slice rX kS.length uw] 31 (0, 0)) (by (with_reducible repeat (first | refine aB ?_ _ | refine aF ?_ | refine aC ?_ _)); exact fE.out) hb)
 have kD := aj.mk (bz (g := gq) (o := .cells #[.int .i64 0, .int .i64 0, .slice none 0 0] 31 (0, 0)) (by (with_reducible repeat (first | refine aB ?_ _ | refine aF ?_ | refine aC ?_ _)); exact jg.out) hb)
 have kW := aj.mk (bC.trans (by repeat (first | (with_reducible first | exact HK.out | apply bC.qg | apply dL | apply dR | apply dM | refine bG ?_ mJ.out _ | refine bG ?_ oJ.out _ | refine bG ?_ rG.out _) | exact HK.out)) (bC.of_below hb g none) (.inl rfl))
 have xJ := aj.mk (aP (by repeat (first | (with_reducible first | exact HB.out | apply ak | apply ah | apply au | refine aA ?_ (aI.ge HI0.out) | refine aA ?_ BC.out | refine aA ?_ EU.out | refine aA ?_ GU.out) | exact HB.out)) hb)
 clear oU
 clear HI0
 clear fA
 clear fE
 clear jg
 clear HK
 clear HB
 have oU := bF
 have uH := dS
 have HI0 := eu
 have fA := fM
 have fE := jR
 have jg := kD
 have HK := kW
 have HB := xJ
 clear bF dS eu fM jR kD kW xJ
 (try clear hb)
 (try clear hb2)
 (try clear hk)
 (try clear hi)
 (try clear ho0)
 obtain ⟨aaP, ZZ, ab4⟩ := Kd.jY oU.out
 (first | subst ab4 | (injection ab4 with KA UG Kz; have UF := KA.symm; have UE := Kz.symm; clear KA UG Kz; subst UF; subst UE))
 obtain ⟨aaO, XA, UO⟩ := Kd.jY uH.out
 (first | subst UO | (injection UO with KA UG Kz; have UF := KA.symm; have UE := Kz.symm; clear KA UG Kz; subst UF; subst UE))
 refine hK.out _ _ ⟨(az fA.out 0).trans rfl, (az fA.out 1).trans rfl, (az fA.out 2).trans rfl, (az fE.out 0).trans rfl, (az fE.out 1).trans rfl, (az fE.out 2).trans rfl⟩ (fun hHeld => ?_)
 clear hK K
 refine xI (a' := ?_) ?_ ?_
 rotate_left
 · show Act.put _ (some 17) _ = _
   simp only [Act.put, List.setIfInBounds_toArray, List.set_cons_zero, List.set_cons_succ, dA, dB]
   rfl
 refine Dw (i := 11) (N := some 18) #[true, true, true, true, true, true, true, true, true, true, true, true, false, false, false, false, false] rfl rfl (oN kP.out (by kernel_rfl)) (by decide) (fun K hK => ?_)
 refine xN Try.func101 (by kernel_rfl) rfl #[.agg #[.int .i64 t113, .int .i64 t114, .slice aaP t115.length ZZ], .agg #[.int .i64 t119, .int .i64 t120, .slice aaO t121.length XA]] (by rfl) rfl rfl (by (try simp only [List.map_toArray, List.map_cons, List.map_nil]); first | done | rfl | (simp only [List.length_drop, List.length_take]; rfl)) ?_
 with_reducible refine (jl.calls t113 t114 _ _ t115 t119 t120 _ _ t121 t124 t125 t126 t129 t130 _ ?fU ?fQ ?qc ?uU A7.out).mono ?_
 (case fU => repeat (first | exact (Kd.jK oU.out).2.2 | (with_reducible refine Kd.gK ?_ _) | (with_reducible refine Kd.gJ ?_ _) | (with_reducible refine Kd.jh ?_)))
 (case fQ => exact (Kd.jK oU.out).2.1)
 (case qc => repeat (first | exact (Kd.jK uH.out).2.2 | (with_reducible refine Kd.gK ?_ _) | (with_reducible refine Kd.gJ ?_ _) | (with_reducible refine Kd.jh ?_)))
 (case uU => exact (Kd.jK uH.out).2.1)
 rintro e w19 ⟨v127, rfl, ho0, hb⟩
 refine ⟨_, rfl, ?_⟩
 have bF := aj.mk (Kd.EK (by (with_reducible repeat (first | apply Kd.gI | apply Kd.gG | apply Kd.iG)); exact oU.out) (Kd.yj ho0) hb)
 have dS := aj.mk (Kd.EK (by (with_reducible repeat (first | apply Kd.gI | apply Kd.gG | apply Kd.iG)); exact uH.out) (Kd.yj ho0) hb)
 have eu := aj.mk (Kd.pR (Kd.OD (Kd.OD ho0 (Kd.Vz (by (with_reducible repeat (first | apply Kd.gI | apply Kd.gG | apply Kd.iG)); exact oU.out))) (Kd.Vz (by (with_reducible repeat (first | apply Kd.gI | apply Kd.gG | apply Kd.iG)); exact uH.out))) (jw (w := w) (g := g) (row := none) (by repeat (first | (with_reducible first | exact HK.out | apply bC.qg | apply dL | apply dR | apply dM | refine bG ?_ mJ.out _ | refine bG ?_ oJ.out _ | refine bG ?_ rG.out _) | exact HK.out))))
 have fM := aj.mk (aI.below (by repeat (first | (with_reducible first | exact HI0.out | apply aI.alloc | apply aI.drewN | apply aI.drew | apply aI.iM | refine aI.far ?_ lT.out _ | refine aI.far ?_ pV.out _ | refine aI.far ?_ xA.out _) | exact HI0.out)) hb)
 have jR := aj.mk (bz (g := lJ) (o := .cells #[.int .i64 bH, .int .i64 bI, .slice eG bu.length eH] 31 (0, 0)) (by (with_reducible repeat (first | refine aB ?_ _ | refine aF ?_ | refine aC ?_ _)); exact fA.out) hb)
 have kD := aj.mk (bz (g := nU) (o := .cells #[.int .i64 mQ, .int .i64 mP, .slice rX kS.length uw] 31 (0, 0)) (by (with_reducible repeat (first | refine aB ?_ _ | refine aF ?_ | refine aC ?_ _)); exact fE.out) hb)
 have kW := aj.mk (bz (g := gq) (o := .cells #[.int .i64 0, .int .i64 0, .slice none 0 0] 31 (0, 0)) (by (with_reducible repeat (first | refine aB ?_ _ | refine aF ?_ | refine aC ?_ _)); exact jg.out) hb)
 have xJ := aj.mk (bC.trans (by repeat (first | (with_reducible first | exact HK.out | apply bC.qg | apply dL | apply dR | apply dM | refine bG ?_ mJ.out _ | refine bG ?_ oJ.out _ | refine bG ?_ rG.out _) | exact HK.out)) (bC.of_below hb g none) (.inl rfl))
 have AO := aj.mk (aP (by repeat (first | (with_reducible first | exact HB.out | apply ak | apply ah | apply au | refine aA ?_ (aI.ge HI0.out) | refine aA ?_ BC.out | refine aA ?_ EU.out | refine aA ?_ GU.out) | exact HB.out)) hb)
 clear oU
 clear uH
 clear HI0
 clear fA
 clear fE
 clear jg
 clear HK
 clear HB
 have oU := bF
 have uH := dS
 have Bo := eu
 have HI0 := fM
 have fA := jR
 have fE := kD
 have jg := kW
 have HK := xJ
 have HB := AO
 clear bF dS eu fM jR kD kW xJ AO
 (try clear hb)
 (try clear hb2)
 (try clear hk)
 (try clear hi)
 (try clear ho0)
 obtain ⟨X_, Si, UN⟩ := Kd.jY Bo.out
 (first | subst UN | (injection UN with KA UG Kz; have UF := KA.symm; have UE := Kz.symm; clear KA UG Kz; subst UF; subst UE))
 refine hK.out _ _ ⟨(az fA.out 0).trans rfl, (az fA.out 1).trans rfl, (az fA.out 2).trans rfl, (az fE.out 0).trans rfl, (az fE.out 1).trans rfl, (az fE.out 2).trans rfl⟩ (fun hHeld => ?_)
 clear hK K
 refine xI (a' := ?_) ?_ ?_
 rotate_left
 · show Act.put _ (some 18) _ = _
   simp only [Act.put, List.setIfInBounds_toArray, List.set_cons_zero, List.set_cons_succ, dA, dB]
   rfl
 refine gm (i := 12) (N := some 19) (v := ?_) (a' := ?_) #[true, true, true, true, true, true, true, true, true, true, true, true, true, false, false, false, false] rfl rfl (dW kP.out (by kernel_rfl)) (fun _ _ _ h => h) (Or.inl ⟨by rfl, ?_⟩) ?_ ?_
 rotate_left
 · intro w'
   go_simp
   with_reducible rfl
 rotate_left
 · simp only [Act.put, List.setIfInBounds_toArray, List.set_cons_zero, List.set_cons_succ, dA, dB]
   rfl
 refine gm (i := 13) (N := some 20) (v := ?_) (a' := ?_) #[true, true, true, true, true, true, true, true, true, true, true, true, true, true, false, false, false] rfl rfl (dW kP.out (by kernel_rfl)) (fun _ _ _ h => h) (Or.inl ⟨by rfl, ?_⟩) ?_ ?_
 rotate_left
 · intro w'
   go_simp
   with_reducible rfl
 rotate_left
 · simp only [Act.put, List.setIfInBounds_toArray, List.set_cons_zero, List.set_cons_succ, dA, dB]
   rfl
 refine gm (i := 14) (N := some 21) (v := ?_) (a' := ?_) #[true, true, true, true, true, true, true, true, true, true, true, true, true, true, true, false, false] rfl rfl (dW kP.out (by kernel_rfl)) (fun _ _ _ h => h) (Or.inl ⟨by rfl, ?_⟩) ?_ ?_
 rotate_left
 · intro w'
   go_simp
   with_reducible rfl
 rotate_left
 · simp only [Act.put, List.setIfInBounds_toArray, List.set_cons_zero, List.set_cons_succ, dA, dB]
   rfl
 refine Dw (i := 15) (N := some 22) #[true, true, true, true, true, true, true, true, true, true, true, true, true, true, true, true, false] rfl rfl (oN kP.out (by kernel_rfl)) (by decide) (fun K hK => ?_)
 refine xN Try.func100 (by kernel_rfl) rfl #[.pointer (some ⟨g, 0, none⟩), .agg #[.int .i64 t124, .int .i64 t125, .slice X_ t126.length Si], .bool t129, .int .i64 t130] (by rfl) rfl rfl (by (try simp only [List.map_toArray, List.map_cons, List.map_nil]); first | done | rfl | (simp only [List.length_drop, List.length_take]; rfl)) ?_
 with_reducible refine (dI.calls g t118 t124 t125 (fun k_ => some k_ = (.slice X_ t126.length Si : Value).ownBlock) (.slice X_ t126.length Si) t126 t129 t130 t131 t132 t133 t136 w0 _ ?fU ?fQ ?qc A8.out).mono ?_
 (case fU => repeat (first | (with_reducible first | exact HI0.out | apply aI.alloc | apply aI.drewN | apply aI.drew | apply aI.iM | refine aI.far ?_ lT.out _ | refine aI.far ?_ pV.out _ | refine aI.far ?_ xA.out _) | exact HI0.out))
 (case fQ => repeat (first | (with_reducible first | exact HB.out | apply ak | apply ah | apply au | refine aA ?_ (aI.ge HI0.out) | refine aA ?_ BC.out | refine aA ?_ EU.out | refine aA ?_ GU.out) | exact HB.out))
 (case qc => exact Kd.pR (Kd.Qe rfl Bo.out) HL.out)
 rintro e Yd ⟨abg, rfl, ho0, hi, hb, hkp⟩
 refine ⟨_, rfl, ?_⟩
 have bF := aj.mk (hi)
 have dS := aj.mk (sS (by (with_reducible repeat (first | refine aB ?_ _ | refine aF ?_ | refine aC ?_ _)); exact fA.out) hkp (fun hs_ => Or.elim hs_ (fun hs_ => (fun e_ => (Kd.Jj Bo.out fA.out (by decide)) e_) hs_) (fun e_ => Qm.out e_)))
 have eu := aj.mk (sS (by (with_reducible repeat (first | refine aB ?_ _ | refine aF ?_ | refine aC ?_ _)); exact fE.out) hkp (fun hs_ => Or.elim hs_ (fun hs_ => (fun e_ => (Kd.Jj Bo.out fE.out (by decide)) e_) hs_) (fun e_ => Ql.out e_)))
 have fM := aj.mk (sS (by (with_reducible repeat (first | refine aB ?_ _ | refine aF ?_ | refine aC ?_ _)); exact jg.out) hkp (fun hs_ => Or.elim hs_ (fun hs_ => (fun e_ => (Kd.Jj Bo.out jg.out (by decide)) e_) hs_) (fun e_ => Qk.out e_)))
 have jR := aj.mk (Kd.lu (ok' := fun k_ => some k_ ≠ (.slice aaO t121.length XA : Value).ownBlock ∧ some k_ ≠ (abg : Value).ownBlock) (Kd.Qh ((aI.apart HI0.out oU.out (by decide))) hkp (fun k_ J6 hs_ => Or.elim hs_ (fun hs_ => (J6.1.2) hs_) (fun e_ => (J6.2) e_))) (fun k_ J6 => ⟨J6.1.1.1.2, fun e_ => Or.elim (ho0.1 k_ e_.symm) (fun hs_ => J6.2.1 (.inl hs_)) (fun Ul => Nat.not_le.2 J6.2.2 Ul)⟩))
 have kD := aj.mk (Kd.lu (ok' := fun k_ => some k_ ≠ (.slice aaP t115.length ZZ : Value).ownBlock ∧ some k_ ≠ (abg : Value).ownBlock) (Kd.Qh ((aI.apart HI0.out uH.out (by decide))) hkp (fun k_ J6 hs_ => Or.elim hs_ (fun hs_ => (J6.1.2) hs_) (fun e_ => (J6.2) e_))) (fun k_ J6 => ⟨J6.1.1.1.2, fun e_ => Or.elim (ho0.1 k_ e_.symm) (fun hs_ => J6.2.1 (.inl hs_)) (fun Ul => Nat.not_le.2 J6.2.2 Ul)⟩))
 have kW := aj.mk (Kd.lu (ok' := fun k_ => some k_ ≠ (.slice aaP t115.length ZZ : Value).ownBlock ∧ some k_ ≠ (.slice aaO t121.length XA : Value).ownBlock) (Kd.Qg (d := (Kd.int .i64)) (b := w0.heap.size) (b' := w.heap.size) (fun _ _ _ _ h_ => h_) ho0 (fun k_ e_ => Or.elim (ho0.1 k_ e_) (fun hs_ => (fun e_ => Kd.yj Bo.out k_ e_.symm) hs_) (fun Ul => Nat.le_trans (jw (w := w) (g := g) (row := none) (by repeat (first | (with_reducible first | exact HK.out | apply bC.qg | apply dL | apply dR | apply dM | refine bG ?_ mJ.out _ | refine bG ?_ oJ.out _ | refine bG ?_ rG.out _) | exact HK.out))) Ul))) (fun k_ J6 => ⟨Or.elim J6 (fun hs_ => fun e_ => ((((aI.apart HI0.out oU.out (by decide))).1 k_ e_.symm).1.2) hs_) (fun Ul => (Kd.fresh' (Kd.Vz (by (with_reducible repeat (first | apply Kd.gI | apply Kd.gG | apply Kd.iG)); exact oU.out)) k_ Ul)), Or.elim J6 (fun hs_ => fun e_ => ((((aI.apart HI0.out uH.out (by decide))).1 k_ e_.symm).1.2) hs_) (fun Ul => (Kd.fresh' (Kd.Vz (by (with_reducible repeat (first | apply Kd.gI | apply Kd.gG | apply Kd.iG)); exact uH.out)) k_ Ul))⟩))
 have xJ := aj.mk (Kept.Yp (by repeat (first | (with_reducible first | exact HK.out | apply bC.qg | apply dL | apply dR | apply dM | refine bG ?_ mJ.out _ | refine bG ?_ oJ.out _ | refine bG ?_ rG.out _) | exact HK.out)) hkp (fun k_ hs_ => Or.elim hs_ (fun hs_ => (fun e_ => .inr (Kd.yj Bo.out k_ e_.symm)) hs_) (fun e_ => .inl e_)))
 have AO := aj.mk (hb)
 clear HI0
 clear fA
 clear fE
 clear jg
 clear oU
 clear uH
 clear HK
 clear HB
 clear Bo
 have HI0 := bF
 have fA := dS
 have fE := eu
 have jg := fM
 have oU := jR
 have uH := kD
 have YN := kW
 have HK := xJ
 have HB := AO
 clear bF dS eu fM jR kD kW xJ AO
 (try clear hb)
 (try clear hkp)
 (try clear ho0)
 obtain ⟨adQ, acd, ab3⟩ := Kd.jY YN.out
 (first | subst ab3 | (injection ab3 with KA UG Kz; have UF := KA.symm; have UE := Kz.symm; clear KA UG Kz; subst UF; subst UE))
 refine hK.out _ _ ⟨(az fA.out 0).trans rfl, (az fA.out 1).trans rfl, (az fA.out 2).trans rfl, (az fE.out 0).trans rfl, (az fE.out 1).trans rfl, (az fE.out 2).trans rfl⟩ (fun hHeld => ?_)
 clear hK K
 refine xI (a' := ?_) ?_ ?_
 rotate_left
 · show Act.put _ (some 22) _ = _
   simp only [Act.put, List.setIfInBounds_toArray, List.set_cons_zero, List.set_cons_succ, dA, dB]
   rfl
 refine Dw (i := 16) (N := none) #[true, true, true, true, true, true, true, true, true, true, true, true, true, true, true, true, true] rfl rfl (oN kP.out (by kernel_rfl)) (by decide) (fun K hK => ?_)
 have alv : Yd.cell? ⟨gq, 0, none⟩ = some (.int .i64 0) := (az jg.out 0).trans rfl
 have ajv := ay jg.out 0
 have aeg := iK.out
 have aef := iJ.out
 have aem := Au.out
 have ael := Ar.out
 have alu : Yd.cell? ⟨gq, 1, none⟩ = some (.int .i64 0) := (az jg.out 1).trans rfl
 have aju := ay jg.out 1
 have aee := iK.out
 have aed := iJ.out
 have aek := Au.out
 have aej := Ar.out
 have als : Yd.cell? ⟨gq, 2, none⟩ = some (.slice none 0 0) := (az jg.out 2).trans rfl
 have ajt := ay jg.out 2
 have aec := iK.out
 have aeb := iJ.out
 have aei := Au.out
 have aeh := Ar.out
 refine Yk (w1 := ?_) (by rfl) rfl ?_ ?_
 rotate_left
 · go_simp
   rfl
 refine hK.out _ _ ⟨((cell_far (p := ⟨gq, _, none⟩) iK.out _).trans (((cell_far (p := ⟨gq, _, none⟩) iK.out _).trans (((cell_far (p := ⟨gq, _, none⟩) iK.out _).trans (hHeld.1)))))), ((cell_far (p := ⟨gq, _, none⟩) iK.out _).trans (((cell_far (p := ⟨gq, _, none⟩) iK.out _).trans (((cell_far (p := ⟨gq, _, none⟩) iK.out _).trans (hHeld.2.1)))))), ((cell_far (p := ⟨gq, _, none⟩) iK.out _).trans (((cell_far (p := ⟨gq, _, none⟩) iK.out _).trans (((cell_far (p := ⟨gq, _, none⟩) iK.out _).trans (hHeld.2.2.1)))))), ((cell_far (p := ⟨gq, _, none⟩) iJ.out _).trans (((cell_far (p := ⟨gq, _, none⟩) iJ.out _).trans (((cell_far (p := ⟨gq, _, none⟩) iJ.out _).trans (hHeld.2.2.2.1)))))), ((cell_far (p := ⟨gq, _, none⟩) iJ.out _).trans (((cell_far (p := ⟨gq, _, none⟩) iJ.out _).trans (((cell_far (p := ⟨gq, _, none⟩) iJ.out _).trans (hHeld.2.2.2.2.1)))))), ((cell_far (p := ⟨gq, _, none⟩) iJ.out _).trans (((cell_far (p := ⟨gq, _, none⟩) iJ.out _).trans (((cell_far (p := ⟨gq, _, none⟩) iJ.out _).trans (hHeld.2.2.2.2.2))))))⟩ (fun hHeld => ?_)
 clear hK K
 refine PV (CG kP.out (by kernel_rfl)) ?_
 try go_wp2
 refine bodyPost_ret (results_cell_row rfl _ _ gq 31 #[.int .i64 t131, .int .i64 t132, .slice adQ t133.length acd] (0, 0) _ rfl (by (with_reducible repeat (first | refine aB ?_ _ | refine aF ?_ | refine aC ?_ _)); refine fZ (cs := #[.int .i64 t131, .int .i64 t132, .slice none 0 0]) ?_ 2 _ rfl; (with_reducible repeat (first | refine aB ?_ _ | refine aF ?_ | refine aC ?_ _)); refine fZ (cs := #[.int .i64 t131, .int .i64 0, .slice none 0 0]) ?_ 1 _ rfl; (with_reducible repeat (first | refine aB ?_ _ | refine aF ?_ | refine aC ?_ _)); refine fZ (cs := #[.int .i64 0, .int .i64 0, .slice none 0 0]) ?_ 0 _ rfl; (with_reducible repeat (first | refine aB ?_ _ | refine aF ?_ | refine aC ?_ _)); exact jg.out) Try.underlying31 rfl (by kernel_rfl)) rfl ?_
 exact ⟨_, by first | rfl | (simp [aN, aK] <;> rfl) | (simp [*, aN, aK] <;> rfl), by (with_reducible repeat (first | apply Kd.gI | apply Kd.gG | apply Kd.iG)); exact Kd.lu (Kd.oI (p := ⟨gq, 2, none⟩) (Kd.oI (p := ⟨gq, 1, none⟩) (Kd.oI (p := ⟨gq, 0, none⟩) (Kd.xx YN.out jg.out (by decide)) (fun _ hk => hk.2) (.int .i64 t131)) (fun _ hk => hk.2) (.int .i64 t132)) (fun _ hk => hk.2) (.slice adQ t133.length acd)) (fun _ hk => trivial), by repeat (first | (with_reducible first | exact HI0.out | apply aI.alloc | apply aI.drewN | apply aI.drew | apply aI.iM | refine aI.far ?_ lT.out _ | refine aI.far ?_ pV.out _ | refine aI.far ?_ xA.out _) | exact HI0.out), by repeat (first | (with_reducible first | exact HB.out | apply ak | apply ah | apply au | refine aA ?_ (aI.ge HI0.out) | refine aA ?_ BC.out | refine aA ?_ EU.out | refine aA ?_ GU.out) | exact HB.out), by repeat (first | (with_reducible first | exact HK.out | apply bC.qg | apply dL | apply dR | apply dM | refine bG ?_ mJ.out _ | refine bG ?_ oJ.out _ | refine bG ?_ rG.out _) | exact HK.out)⟩
end Go.Proofs.Ytnijhjbcjeohhaa.PR

namespace Go.Proofs.Ytnijhjbcjeohhaa.PR
open Go.RowKit Go.Proofs.Ytnijhjbcjeohhaa.PQ Go.Proofs.af.aO Go.Proofs.af.aV Go.Proofs.af.aX
attribute [local go_sem] iU iR jU jT gY gX iT iQ
set_option linter.unusedVariables false
set_option linter.unusedSimpArgs false
def bW.l0 : Nat → Int → Int → Int → Int → List Int → Option (Int × Int × List Int)
 | 0, _, _, _, _, _ => none
 | k + 1, x14, x15, OV, wK, BR => if x15 < x14 then (if 0 ≤ (wrap64 ((wrap64 (x15 * wK)) + x15)) then (if (wrap64 ((wrap64 (x15 * wK)) + x15)) < (BR.length : Int) then (bW.l0 k x14 (wrap64 (x15 + 1)) OV wK (BR.set ((wrap64 ((wrap64 (x15 * wK)) + x15)) : Int).toNat (mx (rd BR (wrap64 ((wrap64 (x15 * wK)) + x15))) 0))) else (none)) else (none)) else (some (OV, wK, BR))
def bW.f (k : Nat) (aT : Int) (aZ : Int) (aY : List Int) : Option (Int × Int × List Int) := (ql.f aT aZ aY).bind fun y8 => (bW.l0 k y8.1 0 y8.1 y8.2.1 y8.2.2.1)
def bW.T5 : Bool × List (List Nat × List Nat) := (true, [([], []), ([0], [0]), ([], []), ([], []), ([3], [3]), ([2, 4], [2, 4]), ([], []), ([5, 6], [5, 6]), ([], []), ([8], [8]), ([], []), ([], []), ([11], [11]), ([10, 12], [10, 12]), ([], []), ([13, 14], [13, 14]), ([9, 15], [9, 15]), ([16], [16]), ([17], [17]), ([1, 7, 0, 1, 2, 3, 4, 5, 6, 7, 8, 9, 10, 11, 12, 13, 14, 15, 16, 17, 18], [1, 7]), ([19, 18, 0, 1, 2, 3, 4, 5, 6, 7, 8, 9, 10, 11, 12, 13, 14, 15, 16, 17, 18], [18, 19])])
def bW.B5 : List Nat := [0, 1, 0, 0, 8, 28, 0, 124, 0, 256, 0, 0, 2048, 7168, 0, 31744, 65280, 130816, 261888, 524287, 1048575]
theorem bW.agf : qh .any (opsOf Try.f104 5) = bW.T5 := by kernel_rfl
theorem bW.acv : tJ bW.T5.2 bW.B5 = true := by kernel_rfl
theorem bW.calls (k : Nat) (aT : Int) (aZ : Int) (bK : Option Addr) (bJ : Nat) (aY : List Int) (r1 : Int) (r2 : Int) (r3 : List Int) (w : World) (iV : Kd.C (Kd.int .i64) w bK aY.length aY) (jy : aY.length ≤ bJ) (h : bW.f k aT aZ aY = some (r1, r2, r3)) :
 Calls Try.prog 104 #[.agg #[.int .i64 aT, .int .i64 aZ, .slice bK aY.length bJ]] w fun e w' => ∃ Jr : Value, e = .returned (.agg #[.int .i64 r1, .int .i64 r2, Jr]) ∧ Kd.R (Kd.int .i64) 22 w' w.heap.size (fun _ => True) Jr r3 ∧ Below w.heap.size w w' := by
 have Ig := Try.underlying31
 have mG := aj.mk iV
 have oV := aj.mk jy
 clear iV jy
 have HB := aj.mk (Below.refl w.heap.size w)
 have H : ((ql.f aT aZ aY).bind fun y8 => (bW.l0 k y8.1 0 y8.1 y8.2.1 y8.2.2.1)) = some (r1, r2, r3) := h
 clear h
 replace H := Option.bind_eq_some_iff.mp H
 obtain ⟨⟨t139, t140, t141, t144, t145⟩, YU, H⟩ := H
 replace H : (bW.l0 k t139 0 t139 t140 t141) = some (r1, r2, r3) := H
 have A2 := aj.mk YU
 clear YU
 have H' := aj.mk H
 clear H
 go_enter Try.func104, Try.ntmps104
 go_wp2_with (first | ((with_reducible refine dH (N := 1) rfl ?_); refine cu ?hg (N := 1) ?hd (cs := #[.int .i64 aT, .int .i64 aZ, .slice bK aY.length bJ]) (t := 31) ?hr ?_; (case hd => rfl); (case hg => rfl); (case hr => first | (go_simp; done) | (go_simp; rfl)); intro oG hg w3 hbox hb; have bF := aj.mk (aP (by repeat (first | (with_reducible first | exact HB.out | apply ak | apply ah | apply au) | exact HB.out)) hb); have dS := aj.mk (hbox); have eu := aj.mk ((by rw [hg]; exact (bf (by repeat (first | (with_reducible first | exact HB.out | apply ak | apply ah | apply au) | exact HB.out))) : w.heap.size ≤ oG)); have fM := aj.mk ((by rw [hg]; exact (bf (by repeat (first | (with_reducible first | exact HB.out | apply ak | apply ah | apply au) | exact HB.out))) : w.heap.size ≤ oG)); clear HB; have HB := bF; have jB := dS; have akN := eu; have wB := fM; clear bF dS eu fM; clear hb hbox hg) | ((with_reducible refine dH (N := 2) rfl ?_); refine cu ?hg (N := 2) ?hd (cs := #[.int .i64 0, .int .i64 0, .slice none 0 0]) (t := 31) ?hr ?_; (case hd => rfl); (case hg => rfl); (case hr => first | (go_simp; done) | (go_simp; rfl)); intro nT hg w4 hbox hb; have bF := aj.mk (bz (g := oG) (o := .cells #[.int .i64 aT, .int .i64 aZ, .slice bK aY.length bJ] 31 (0, 0)) (by (with_reducible repeat (first | refine aB ?_ _ | refine aF ?_ | refine aC ?_ _)); exact jB.out) hb); have dS := aj.mk (aP (by repeat (first | (with_reducible first | exact HB.out | apply ak | apply ah | apply au | refine aA ?_ wB.out) | exact HB.out)) hb); have eu := aj.mk (hbox); have fM := aj.mk ((by rw [hg]; exact (bf (by repeat (first | (with_reducible first | exact HB.out | apply ak | apply ah | apply au | refine aA ?_ wB.out) | exact HB.out))) : w.heap.size ≤ nT)); have jR := aj.mk ((by rw [hg]; exact (bf (by repeat (first | (with_reducible first | exact HB.out | apply ak | apply ah | apply au | refine aA ?_ wB.out) | exact HB.out))) : w.heap.size ≤ nT)); have kD := aj.mk ((by rw [hg]; exact Nat.ne_of_lt (dY (g := oG) (o := .cells #[.int .i64 aT, .int .i64 aZ, .slice bK aY.length bJ] 31 (0, 0)) (by (with_reducible repeat (first | refine aB ?_ _ | refine aF ?_ | refine aC ?_ _)); exact jB.out)) : oG ≠ nT)); have kW := aj.mk ((by rw [hg]; exact Nat.ne_of_gt (dY (g := oG) (o := .cells #[.int .i64 aT, .int .i64 aZ, .slice bK aY.length bJ] 31 (0, 0)) (by (with_reducible repeat (first | refine aB ?_ _ | refine aF ?_ | refine aC ?_ _)); exact jB.out)) : nT ≠ oG)); clear jB; clear HB; have jB := bF; have HB := dS; have ku := eu; have akM := fM; have BA := jR; have GI := kD; have GH := kW; clear bF dS eu fM jR kD kW; clear hb hbox hg; have alC := GI.out; have alz := GH.out; have vO : w4.cell? ⟨oG, 0, none⟩ = some (.int .i64 aT) := (az jB.out 0).trans rfl; have vN : w4.cell? ⟨oG, 1, none⟩ = some (.int .i64 aZ) := (az jB.out 1).trans rfl; have yf : w4.cell? ⟨oG, 2, none⟩ = some (.slice bK aY.length bJ) := (az jB.out 2).trans rfl; have vJ := ay jB.out 0; have vI := ay jB.out 1; have yc := ay jB.out 2) | ((with_reducible refine aH (f := 116) rfl ?_); refine bg (some 9) rfl rfl Try.func116 (by kernel_rfl) rfl #[.agg #[.int .i64 aT, .int .i64 aZ, .slice bK aY.length bJ]] rfl (by (try simp only [List.map_toArray, List.map_cons, List.map_nil]); first | done | rfl | (simp only [List.length_drop, List.length_take]; rfl)) ?_; (with_reducible refine (ql.calls aT aZ _ _ aY t139 t140 t141 t144 t145 _ ?fU ?fQ A2.out).mono ?_); (case fU => repeat (first | exact (Kd.fO mG.out HB.out) | (with_reducible refine Kd.gK ?_ _) | (with_reducible refine Kd.gJ ?_ _) | (with_reducible refine Kd.jh ?_))); (case fQ => exact oV.out); rintro e w7 ⟨ak7, rfl, ho0, hb⟩; refine ⟨_, rfl, ?_⟩; have bF := aj.mk (Kd.pR ho0 (bf (by repeat (first | (with_reducible first | exact HB.out | apply ak | apply ah | apply au | refine aA ?_ wB.out | refine aA ?_ BA.out) | exact HB.out)))); have dS := aj.mk (bz (g := oG) (o := .cells #[.int .i64 aT, .int .i64 aZ, .slice bK aY.length bJ] 31 (0, 0)) (by (with_reducible repeat (first | refine aB ?_ _ | refine aF ?_ | refine aC ?_ _)); exact jB.out) hb); have eu := aj.mk (bz (g := nT) (o := .cells #[.int .i64 0, .int .i64 0, .slice none 0 0] 31 (0, 0)) (by (with_reducible repeat (first | refine aB ?_ _ | refine aF ?_ | refine aC ?_ _)); exact ku.out) hb); have fM := aj.mk (aP (by repeat (first | (with_reducible first | exact HB.out | apply ak | apply ah | apply au | refine aA ?_ wB.out | refine aA ?_ BA.out) | exact HB.out)) hb); clear jB; clear ku; clear HB; have Lc := bF; have jB := dS; have ku := eu; have HB := fM; clear bF dS eu fM; (try clear hb); (try clear hb2); (try clear hk); (try clear hi); (try clear ho0)) | ((with_reducible refine dH (N := 3) rfl ?_); refine cu ?hg (N := 3) ?hd (cs := #[.int .i64 0, .int .i64 0, .slice none 0 0]) (t := 31) ?hr ?_; (case hd => rfl); (case hg => rfl); (case hr => first | (go_simp; done) | (go_simp; rfl)); intro nK hg w8 hbox hb; have bF := aj.mk (Kd.pU (by (with_reducible repeat (first | apply Kd.gI | apply Kd.gG | apply Kd.iG)); exact Lc.out) hb); have dS := aj.mk (bz (g := oG) (o := .cells #[.int .i64 aT, .int .i64 aZ, .slice bK aY.length bJ] 31 (0, 0)) (by (with_reducible repeat (first | refine aB ?_ _ | refine aF ?_ | refine aC ?_ _)); exact jB.out) hb); have eu := aj.mk (bz (g := nT) (o := .cells #[.int .i64 0, .int .i64 0, .slice none 0 0] 31 (0, 0)) (by (with_reducible repeat (first | refine aB ?_ _ | refine aF ?_ | refine aC ?_ _)); exact ku.out) hb); have fM := aj.mk (aP (by repeat (first | (with_reducible first | exact HB.out | apply ak | apply ah | apply au | refine aA ?_ wB.out | refine aA ?_ BA.out) | exact HB.out)) hb); have jR := aj.mk (hbox); have kD := aj.mk ((by rw [hg]; exact (bf (by repeat (first | (with_reducible first | exact HB.out | apply ak | apply ah | apply au | refine aA ?_ wB.out | refine aA ?_ BA.out) | exact HB.out))) : w.heap.size ≤ nK)); have kW := aj.mk ((by rw [hg]; exact (bf (by repeat (first | (with_reducible first | exact HB.out | apply ak | apply ah | apply au | refine aA ?_ wB.out | refine aA ?_ BA.out) | exact HB.out))) : w.heap.size ≤ nK)); have xJ := aj.mk ((by rw [hg]; exact Nat.ne_of_lt (dY (g := oG) (o := .cells #[.int .i64 aT, .int .i64 aZ, .slice bK aY.length bJ] 31 (0, 0)) (by (with_reducible repeat (first | refine aB ?_ _ | refine aF ?_ | refine aC ?_ _)); exact jB.out)) : oG ≠ nK)); have AO := aj.mk ((by rw [hg]; exact Nat.ne_of_gt (dY (g := oG) (o := .cells #[.int .i64 aT, .int .i64 aZ, .slice bK aY.length bJ] 31 (0, 0)) (by (with_reducible repeat (first | refine aB ?_ _ | refine aF ?_ | refine aC ?_ _)); exact jB.out)) : nK ≠ oG)); have Pn := aj.mk ((by rw [hg]; exact Nat.ne_of_lt (dY (g := nT) (o := .cells #[.int .i64 0, .int .i64 0, .slice none 0 0] 31 (0, 0)) (by (with_reducible repeat (first | refine aB ?_ _ | refine aF ?_ | refine aC ?_ _)); exact ku.out)) : nT ≠ nK)); have yO := aj.mk ((by rw [hg]; exact Nat.ne_of_gt (dY (g := nT) (o := .cells #[.int .i64 0, .int .i64 0, .slice none 0 0] 31 (0, 0)) (by (with_reducible repeat (first | refine aB ?_ _ | refine aF ?_ | refine aC ?_ _)); exact ku.out)) : nK ≠ nT)); clear Lc; clear jB; clear ku; clear HB; have Lc := bF; have jB := dS; have ku := eu; have HB := fM; have jZ := jR; have akL := kD; have VJ := kW; have sZ := xJ; have Gz := AO; have sW := Pn; have Gy := yO; clear bF dS eu fM jR kD kW xJ AO Pn yO; clear hb hbox hg; have alB := Gz.out; have aly := sZ.out; have abR := Gy.out; have abO := sW.out; have Cm : w8.cell? ⟨nK, 0, none⟩ = some (.int .i64 0) := (az jZ.out 0).trans rfl; have Cj : w8.cell? ⟨nK, 1, none⟩ = some (.int .i64 0) := (az jZ.out 1).trans rfl; have Ci : w8.cell? ⟨nK, 2, none⟩ = some (.slice none 0 0) := (az jZ.out 2).trans rfl; have Ce := ay jZ.out 0; have Cc := ay jZ.out 1; have Cb := ay jZ.out 2; obtain ⟨aaR, Z7, ZP⟩ := Kd.jY Lc.out; subst ZP))
 go_loopg [15] k (fun kq v15 w' => ∃ (jq : Int) (fB : List Int) (BV : Value), v15 = .int .i64 jq ∧ aj (bW.l0 kq t139 jq t139 t140 fB = some (r1, r2, r3)) ∧ aj (kq ≤ k) ∧ aj (Kd.R (Kd.int .i64) 22 w' w.heap.size (fun _ => True) BV fB) ∧ aj (w'.heap[oG]? = some (.cells #[.int .i64 aT, .int .i64 aZ, (.slice bK aY.length bJ)] 31 (0, 0))) ∧ aj (w'.heap[nT]? = some (.cells #[.int .i64 0, .int .i64 0, (.slice none 0 0)] 31 (0, 0))) ∧ aj (w'.heap[nK]? = some (.cells #[.int .i64 t139, .int .i64 t140, BV] 31 (0, 0))) ∧ aj (Below w.heap.size w w'))
 case atStart => exact ⟨(0), (t141), (.slice aaR t141.length Z7), (by first | rfl | (simp; done) | (simp [*]; done)), H', ⟨Nat.le_refl _⟩, ⟨by (with_reducible repeat (first | apply Kd.gI | apply Kd.gG | apply Kd.iG)); exact Kd.lu (Kd.oI (p := ⟨nK, 2, none⟩) (Kd.oI (p := ⟨nK, 1, none⟩) (Kd.oI (p := ⟨nK, 0, none⟩) (Kd.xx Lc.out jZ.out (by decide)) (fun _ hk => hk.2) (.int .i64 t139)) (fun _ hk => hk.2) (.int .i64 t140)) (fun _ hk => hk.2) (.slice aaR t141.length Z7)) (fun _ hk => trivial)⟩, ⟨by (with_reducible repeat (first | refine aB ?_ _ | refine aF ?_ | refine aC ?_ _)); refine lS ?_ sZ.out _; (with_reducible repeat (first | refine aB ?_ _ | refine aF ?_ | refine aC ?_ _)); refine lS ?_ sZ.out _; (with_reducible repeat (first | refine aB ?_ _ | refine aF ?_ | refine aC ?_ _)); refine lS ?_ sZ.out _; (with_reducible repeat (first | refine aB ?_ _ | refine aF ?_ | refine aC ?_ _)); exact jB.out⟩, ⟨by (with_reducible repeat (first | refine aB ?_ _ | refine aF ?_ | refine aC ?_ _)); refine lS ?_ sW.out _; (with_reducible repeat (first | refine aB ?_ _ | refine aF ?_ | refine aC ?_ _)); refine lS ?_ sW.out _; (with_reducible repeat (first | refine aB ?_ _ | refine aF ?_ | refine aC ?_ _)); refine lS ?_ sW.out _; (with_reducible repeat (first | refine aB ?_ _ | refine aF ?_ | refine aC ?_ _)); exact ku.out⟩, ⟨by (with_reducible repeat (first | refine aB ?_ _ | refine aF ?_ | refine aC ?_ _)); refine fZ (cs := #[.int .i64 t139, .int .i64 t140, .slice none 0 0]) ?_ 2 _ rfl; (with_reducible repeat (first | refine aB ?_ _ | refine aF ?_ | refine aC ?_ _)); refine fZ (cs := #[.int .i64 t139, .int .i64 0, .slice none 0 0]) ?_ 1 _ rfl; (with_reducible repeat (first | refine aB ?_ _ | refine aF ?_ | refine aC ?_ _)); refine fZ (cs := #[.int .i64 0, .int .i64 0, .slice none 0 0]) ?_ 0 _ rfl; (with_reducible repeat (first | refine aB ?_ _ | refine aF ?_ | refine aC ?_ _)); exact jZ.out⟩, ⟨by repeat (first | (with_reducible first | exact HB.out | apply ak | apply ah | apply au | refine aA ?_ wB.out | refine aA ?_ BA.out | refine aA ?_ VJ.out) | exact HB.out)⟩⟩
 case round =>
  clear H'
  try clear c1
  try clear p2
  try clear c5
  try clear c9
  try clear c10
  try clear c11
  try clear Cm
  try clear Cj
  try clear Ci
  try clear vO
  try clear vN
  try clear yf
  try clear Ce
  try clear Cc
  try clear Cb
  try clear vJ
  try clear vI
  try clear yc
  obtain ⟨jq, fB, BV, rfl, HA, zy, gZ, jB, ku, jZ, HB⟩ := hrel
  cases gk with
  | zero => exact absurd HA.out (by simp [bW.l0])
  | succ k1 =>
    have H := HA.out
    clear HA
    simp only [bW.l0] at H
    by_cases c13 : jq < t139
    · rw [if_pos c13] at H
      have xR : decide (jq < t139) = true := decide_eq_true c13
      clear c13
      obtain ⟨qp, Un⟩ : ∃ j_ : Int, (wrap64 ((wrap64 (jq * t140)) + jq)) = j_ := ⟨_, rfl⟩
      replace H : (if 0 ≤ (qp) then (if (qp) < (fB.length : Int) then (bW.l0 k1 t139 (wrap64 (jq + 1)) t139 t140 (fB.set ((qp) : Int).toNat (mx (rd fB (qp)) 0))) else (none)) else (none)) = some (r1, r2, r3) := by first | (rw [Un] at H; exact H) | (simp only [Un] at H ⊢; exact H)
      have ag2 : (IntKind.i64.wrap ((wrap64 (jq * t140)) + jq)) = qp := (dA _).trans Un
      by_cases c15 : 0 ≤ (qp)
      · rw [if_pos c15] at H
        have Vj : decide (0 ≤ (qp)) = true := decide_eq_true c15
        clear c15
        by_cases c16 : (qp) < (fB.length : Int)
        · rw [if_pos c16] at H
          have Gs : decide ((qp) < (fB.length : Int)) = true := decide_eq_true c16
          clear c16
          obtain ⟨jC, qx⟩ : ∃ j_ : Int, (mx (rd fB (qp)) 0) = j_ := ⟨_, rfl⟩
          replace H : (bW.l0 k1 t139 (wrap64 (jq + 1)) t139 t140 (fB.set ((qp) : Int).toNat (jC))) = some (r1, r2, r3) := by first | (rw [qx] at H; exact H) | (simp only [qx] at H ⊢; exact H)
          have Zq : (if (rd fB (qp)) < 0 then 0 else (rd fB (qp))) = jC := qx
          obtain ⟨abf, JY⟩ : ∃ y_ : List Int, y_ = (fB.set ((qp) : Int).toNat (jC)) := ⟨_, rfl⟩
          replace H : (bW.l0 k1 t139 (wrap64 (jq + 1)) t139 t140 abf) = some (r1, r2, r3) := by first | (rw [JY]; with_reducible exact H) | (have H2_ := (Option.bind_some _ _).symm.trans H; rw [JY]; with_reducible exact H2_) | (have H2_ := (Option.bind_some _ _).symm.trans H; with_reducible exact H2_) | with_reducible exact H | (rw [JY]; exact H) | exact H
          have ac9 := aj.mk JY
          clear JY
          have H' := aj.mk H
          clear H
          try go_wp2
          have bF := aj.mk (Kd.iG gZ.out)
          have dS := aj.mk (aF jB.out)
          have eu := aj.mk (aF ku.out)
          have fM := aj.mk (aF jZ.out)
          have jR := aj.mk (au HB.out)
          clear gZ
          clear jB
          clear ku
          clear jZ
          clear HB
          have gZ := bF
          have jB := dS
          have ku := eu
          have jZ := fM
          have HB := jR
          clear bF dS eu fM jR
          obtain ⟨X_, Si, UN⟩ := Kd.jY gZ.out
          (first | subst UN | (injection UN with KA UG Kz; have UF := KA.symm; have UE := Kz.symm; clear KA UG Kz; subst UF; subst UE))
          have Y6 : 0 ≤ ((qp) : Int) := of_decide_eq_true (by first | (with_reducible assumption) | assumption)
          have Y5 : (qp) < (fB.length : Int) := of_decide_eq_true (by first | (with_reducible assumption) | assumption)
          obtain ⟨ajK, ahE, Ib⟩ := Kd.iF (Kd.jK gZ.out).2.2 (qp) Y6 Y5
          cases ahE
          replace Y6 := eq_true Y6
          replace Y5 := eq_true Y5
          have p18 : 0 ≤ ((qp) : Int) := of_decide_eq_true (by first | (with_reducible assumption) | assumption)
          have q18 : ((qp) : Int) < ((fB.length : Int) : Int) := of_decide_eq_true (by first | (with_reducible assumption) | assumption)
          obtain ⟨ZK, XA, UO, abW, ahu, ami, adC⟩ := Kd.aal gZ.out (by omega)
          (first | cases UO | (injection UO with ea_ en_ ec_; (first | subst ea_ | (injection ea_ with ea_; subst ea_)); subst ec_; clear en_))
          have aiF := aj.mk abW
          have aiE := aj.mk adC
          clear abW ahu adC
          (first | simp only [add_plain] at Ib | skip)
          obtain ⟨Zk, Zy⟩ := Kd.XQ 0 gZ.out ((qp) : Int) p18 q18
          replace p18 := eq_true p18
          replace q18 := eq_true q18
          have aaF := Kd.aaj gZ.out ((qp) : Int) jC
          rw [← ac9.out] at aaF
          have adw := aj.mk aaF
          clear aaF
          refine Hl (n := 21) (S := fun w' => w'.cell? ⟨nK, 0, none⟩ = some (.int .i64 t139) ∧ w'.cell? ⟨nK, 1, none⟩ = some (.int .i64 t140) ∧ w'.cell? ⟨nK, 2, none⟩ = some (.slice (some ⟨ZK, 0, none⟩) fB.length Si) ∧ w'.cell? ⟨ZK, ((qp)).toNat, none⟩ = some (.int .i64 (rd fB (qp)))) (ds := [20]) #[false, false, false, false, false, false, false, false, false, false, false, false, false, false, false, false, false, false, false, false, false] (by kernel_rfl) rfl rfl ⟨(az jZ.out 0).trans rfl, (az jZ.out 1).trans rfl, (az jZ.out 2).trans rfl, Ib⟩ (fun hHeld => ?_); refine wL bW.agf bW.acv (fun kP La => ?_)
          generalize wr.drew = w19 at gZ jB ku jZ HB aiE adw Zy Ib Zk hHeld ⊢
          refine gm (i := 0) (N := some 18) (v := ?_) (a' := ?_) #[true, false, false, false, false, false, false, false, false, false, false, false, false, false, false, false, false, false, false, false, false] rfl rfl (dW kP.out (by kernel_rfl)) (fun _ _ _ h => h) (Or.inl ⟨by rfl, ?_⟩) ?_ ?_
          rotate_left
          · intro w'
            go_simp
            with_reducible rfl
          rotate_left
          · simp only [Act.put, List.setIfInBounds_toArray, List.set_cons_zero, List.set_cons_succ, dA, dB]
            rfl
          refine gm (i := 2) (N := some 20) (v := ?_) (a' := ?_) #[true, false, true, false, false, false, false, false, false, false, false, false, false, false, false, false, false, false, false, false, false] rfl rfl (dW kP.out (by kernel_rfl)) (fun _ _ _ h => h) (Or.inl ⟨by rfl, ?_⟩) ?_ ?_
          rotate_left
          · intro w'
            go_simp
            with_reducible rfl
          rotate_left
          · simp only [Act.put, List.setIfInBounds_toArray, List.set_cons_zero, List.set_cons_succ, dA, dB]
            rfl
          refine gm (i := 3) (N := some 21) (v := ?_) (a' := ?_) #[true, false, true, true, false, false, false, false, false, false, false, false, false, false, false, false, false, false, false, false, false] rfl rfl (dW kP.out (by kernel_rfl)) (fun _ _ _ h => h) (Or.inl ⟨by rfl, ?_⟩) ?_ ?_
          rotate_left
          · intro w'
            go_simp
            with_reducible rfl
          rotate_left
          · simp only [Act.put, List.setIfInBounds_toArray, List.set_cons_zero, List.set_cons_succ, dA, dB]
            rfl
          refine gm (i := 6) (N := some 24) (v := ?_) (a' := ?_) #[true, false, true, true, false, false, true, false, false, false, false, false, false, false, false, false, false, false, false, false, false] rfl rfl (dW kP.out (by kernel_rfl)) (fun _ _ _ h => h) (Or.inl ⟨by rfl, ?_⟩) ?_ ?_
          rotate_left
          · intro w'
            go_simp
            with_reducible rfl
          rotate_left
          · simp only [Act.put, List.setIfInBounds_toArray, List.set_cons_zero, List.set_cons_succ, dA, dB]
            rfl
          refine gm (i := 8) (N := some 26) (v := ?_) (a' := ?_) #[true, false, true, true, false, false, true, false, true, false, false, false, false, false, false, false, false, false, false, false, false] rfl rfl (dW kP.out (by kernel_rfl)) (fun _ _ _ h => h) (Or.inl ⟨by rfl, ?_⟩) ?_ ?_
          rotate_left
          · intro w'
            go_simp
            with_reducible rfl
          rotate_left
          · simp only [Act.put, List.setIfInBounds_toArray, List.set_cons_zero, List.set_cons_succ, dA, dB]
            rfl
          refine gm (i := 10) (N := some 28) (v := ?_) (a' := ?_) #[true, false, true, true, false, false, true, false, true, false, true, false, false, false, false, false, false, false, false, false, false] rfl rfl (dW kP.out (by kernel_rfl)) (fun _ _ _ h => h) (Or.inl ⟨by rfl, ?_⟩) ?_ ?_
          rotate_left
          · intro w'
            go_simp
            with_reducible rfl
          rotate_left
          · simp only [Act.put, List.setIfInBounds_toArray, List.set_cons_zero, List.set_cons_succ, dA, dB]
            rfl
          refine gm (i := 11) (N := some 29) (v := ?_) (a' := ?_) #[true, false, true, true, false, false, true, false, true, false, true, true, false, false, false, false, false, false, false, false, false] rfl rfl (dW kP.out (by kernel_rfl)) (fun _ _ _ h => h) (Or.inl ⟨by rfl, ?_⟩) ?_ ?_
          rotate_left
          · intro w'
            go_simp
            with_reducible rfl
          rotate_left
          · simp only [Act.put, List.setIfInBounds_toArray, List.set_cons_zero, List.set_cons_succ, dA, dB]
            rfl
          refine gm (i := 14) (N := some 32) (v := ?_) (a' := ?_) #[true, false, true, true, false, false, true, false, true, false, true, true, false, false, true, false, false, false, false, false, false] rfl rfl (dW kP.out (by kernel_rfl)) (fun _ _ _ h => h) (Or.inl ⟨by rfl, ?_⟩) ?_ ?_
          rotate_left
          · intro w'
            go_simp
            with_reducible rfl
          rotate_left
          · simp only [Act.put, List.setIfInBounds_toArray, List.set_cons_zero, List.set_cons_succ, dA, dB]
            rfl
          refine qN (i := 1) (N := some 19) (v := ?_) (a' := ?_) #[true, true, true, true, false, false, true, false, true, false, true, true, false, false, true, false, false, false, false, false, false] rfl rfl (iL kP.out La.out (by kernel_rfl)) (fun _ _ _ h => h) (Or.inl ⟨by rfl, ?_⟩) hHeld ?_ ?_
          rotate_left
          · rintro w' ⟨s0, s1, s2, s3⟩
            go_simp
            with_reducible rfl
          rotate_left
          · simp only [Act.put, List.setIfInBounds_toArray, List.set_cons_zero, List.set_cons_succ, dA, dB]
            rfl
          refine qN (i := 4) (N := some 22) (v := ?_) (a' := ?_) #[true, true, true, true, true, false, true, false, true, false, true, true, false, false, true, false, false, false, false, false, false] rfl rfl (iL kP.out La.out (by kernel_rfl)) (fun _ _ _ h => h) (Or.inl ⟨by rfl, ?_⟩) hHeld ?_ ?_
          rotate_left
          · rintro w' ⟨s0, s1, s2, s3⟩
            go_simp
            with_reducible rfl
          rotate_left
          · simp only [Act.put, List.setIfInBounds_toArray, List.set_cons_zero, List.set_cons_succ, dA, dB]
            rfl
          refine gm (i := 5) (N := some 23) (v := ?_) (a' := ?_) #[true, true, true, true, true, true, true, false, true, false, true, true, false, false, true, false, false, false, false, false, false] rfl rfl (dW kP.out (by kernel_rfl)) (fun _ _ _ h => h) (Or.inl ⟨by rfl, ?_⟩) ?_ ?_
          rotate_left
          · intro w'
            go_simp
            with_reducible rfl
          rotate_left
          · simp only [Act.put, List.setIfInBounds_toArray, List.set_cons_zero, List.set_cons_succ, dA, dB]
            rfl
          refine gm (i := 7) (N := some 25) (v := ?_) (a' := ?_) #[true, true, true, true, true, true, true, true, true, false, true, true, false, false, true, false, false, false, false, false, false] rfl rfl (dW kP.out (by kernel_rfl)) (fun _ _ _ h => h) (Or.inl ⟨by rfl, ?_⟩) ?_ ?_
          rotate_left
          · intro w'
            go_simp
            with_reducible rfl
          rotate_left
          · simp only [Act.put, List.setIfInBounds_toArray, List.set_cons_zero, List.set_cons_succ, dA, dB]
            rfl
          refine qN (i := 9) (N := some 27) (v := ?_) (a' := ?_) #[true, true, true, true, true, true, true, true, true, true, true, true, false, false, true, false, false, false, false, false, false] rfl rfl (iL kP.out La.out (by kernel_rfl)) (fun _ _ _ h => h) (Or.inl ⟨by rfl, ?_⟩) hHeld ?_ ?_
          rotate_left
          · rintro w' ⟨s0, s1, s2, s3⟩
            go_simp
            with_reducible rfl
          rotate_left
          · simp only [Act.put, List.setIfInBounds_toArray, List.set_cons_zero, List.set_cons_succ, dA, dB]
            rfl
          refine qN (i := 12) (N := some 30) (v := ?_) (a' := ?_) #[true, true, true, true, true, true, true, true, true, true, true, true, true, false, true, false, false, false, false, false, false] rfl rfl (iL kP.out La.out (by kernel_rfl)) (fun _ _ _ h => h) (Or.inl ⟨by rfl, ?_⟩) hHeld ?_ ?_
          rotate_left
          · rintro w' ⟨s0, s1, s2, s3⟩
            go_simp
            with_reducible rfl
          rotate_left
          · simp only [Act.put, List.setIfInBounds_toArray, List.set_cons_zero, List.set_cons_succ, dA, dB]
            rfl
          refine gm (i := 13) (N := some 31) (v := ?_) (a' := ?_) #[true, true, true, true, true, true, true, true, true, true, true, true, true, true, true, false, false, false, false, false, false] rfl rfl (dW kP.out (by kernel_rfl)) (fun _ _ _ h => h) (Or.inl ⟨by rfl, ?_⟩) ?_ ?_
          rotate_left
          · intro w'
            go_simp
            with_reducible rfl
          rotate_left
          · simp only [Act.put, List.setIfInBounds_toArray, List.set_cons_zero, List.set_cons_succ, dA, dB]
            rfl
          refine gm (i := 15) (N := some 33) (v := ?_) (a' := ?_) #[true, true, true, true, true, true, true, true, true, true, true, true, true, true, true, true, false, false, false, false, false] rfl rfl (dW kP.out (by kernel_rfl)) (fun _ _ _ h => h) (Or.inl ⟨by rfl, ?_⟩) ?_ ?_
          rotate_left
          · intro w'
            go_simp
            with_reducible rfl
          rotate_left
          · simp only [Act.put, List.setIfInBounds_toArray, List.set_cons_zero, List.set_cons_succ, dA, dB]
            rfl
          refine gm (i := 16) (N := some 34) (v := ?_) (a' := ?_) #[true, true, true, true, true, true, true, true, true, true, true, true, true, true, true, true, true, false, false, false, false] rfl rfl (dW kP.out (by kernel_rfl)) (fun _ _ _ h => h) (Or.inl ⟨by rfl, ?_⟩) ?_ ?_
          rotate_left
          · intro w'
            go_simp
            with_reducible rfl
          rotate_left
          · simp only [Act.put, List.setIfInBounds_toArray, List.set_cons_zero, List.set_cons_succ, dA, dB]
            rfl
          refine qN (i := 17) (N := some 35) (v := ?_) (a' := ?_) #[true, true, true, true, true, true, true, true, true, true, true, true, true, true, true, true, true, true, false, false, false] rfl rfl (iL kP.out La.out (by kernel_rfl)) (fun _ _ _ h => h) (Or.inl ⟨by rfl, ?_⟩) hHeld ?_ ?_
          rotate_left
          · rintro w' ⟨s0, s1, s2, s3⟩
            go_simp
            with_reducible rfl
          rotate_left
          · simp only [Act.put, List.setIfInBounds_toArray, List.set_cons_zero, List.set_cons_succ, dA, dB]
            rfl
          refine gm (i := 18) (N := some 36) (v := ?_) (a' := ?_) #[true, true, true, true, true, true, true, true, true, true, true, true, true, true, true, true, true, true, true, false, false] rfl rfl (dW kP.out (by kernel_rfl)) (fun _ _ _ h => h) (Or.inl ⟨by rfl, ?_⟩) ?_ ?_
          rotate_left
          · intro w'
            go_simp
            with_reducible rfl
          rotate_left
          · simp only [Act.put, List.setIfInBounds_toArray, List.set_cons_zero, List.set_cons_succ, dA, dB]
            rfl
          refine gm (i := 19) (N := some 37) (v := ?_) (a' := ?_) #[true, true, true, true, true, true, true, true, true, true, true, true, true, true, true, true, true, true, true, true, false] rfl rfl (dW kP.out (by kernel_rfl)) (fun _ _ _ h => h) (Or.inl ⟨by rfl, ?_⟩) ?_ ?_
          rotate_left
          · intro w'
            go_simp
            with_reducible rfl
          rotate_left
          · simp only [Act.put, List.setIfInBounds_toArray, List.set_cons_zero, List.set_cons_succ, dA, dB]
            rfl
          refine abz (i := 20) (N := none) #[true, true, true, true, true, true, true, true, true, true, true, true, true, true, true, true, true, true, true, true, true] rfl rfl (oN kP.out (by kernel_rfl)) (by decide) (fun K hK => ?_)
          refine Yk (w1 := ?_) (by rfl) rfl ?_ ?_
          rotate_left
          · go_simp
            rfl
          refine hK.out _ _ ?_
          clear hK K
          refine PV (CG kP.out (by kernel_rfl)) ?_
          try go_wp2
          go_roundg k1
          case measure => have := zy.out; omega
          case rel => exact ⟨(wrap64 (jq + 1)), (abf), (.slice (some ⟨ZK, 0, none⟩) fB.length Si), (by first | rfl | (simp; done) | (simp [*]; done)), H', ⟨by have := zy.out; omega⟩, ⟨by (with_reducible repeat (first | apply Kd.gI | apply Kd.gG | apply Kd.iG)); exact adw.out⟩, ⟨by (with_reducible repeat (first | refine aB ?_ _ | refine aF ?_ | refine aC ?_ _)); refine lS ?_ (by have h_ := Kd.Jj gZ.out jB.out (by decide); intro e_; exact h_ (by rw [e_]; rfl)) _; (with_reducible repeat (first | refine aB ?_ _ | refine aF ?_ | refine aC ?_ _)); exact jB.out⟩, ⟨by (with_reducible repeat (first | refine aB ?_ _ | refine aF ?_ | refine aC ?_ _)); refine lS ?_ (by have h_ := Kd.Jj gZ.out ku.out (by decide); intro e_; exact h_ (by rw [e_]; rfl)) _; (with_reducible repeat (first | refine aB ?_ _ | refine aF ?_ | refine aC ?_ _)); exact ku.out⟩, ⟨by (with_reducible repeat (first | refine aB ?_ _ | refine aF ?_ | refine aC ?_ _)); refine lS ?_ (by have h_ := Kd.Jj gZ.out jZ.out (by decide); intro e_; exact h_ (by rw [e_]; rfl)) _; (with_reducible repeat (first | refine aB ?_ _ | refine aF ?_ | refine aC ?_ _)); exact jZ.out⟩, ⟨by repeat (first | (with_reducible first | exact HB.out | apply ak | apply ah | apply au | refine aA ?_ aiF.out | refine aA ?_ wB.out | refine aA ?_ BA.out | refine aA ?_ VJ.out) | exact HB.out)⟩⟩
        · rw [if_neg c16] at H
          exact absurd H (by simp)
      · rw [if_neg c15] at H
        exact absurd H (by simp)
    · rw [if_neg c13] at H
      have xR : decide (jq < t139) = false := decide_eq_false c13
      clear c13
      simp only [Option.some.injEq, Prod.mk.injEq] at H
      obtain ⟨rfl, rfl, rfl⟩ := H
      have Yt := Gz.out
      have Yq := sZ.out
      have ajf := Gy.out
      have ai9 := sW.out
      have IL : wr.cell? ⟨nK, 0, none⟩ = some (.int .i64 t139) := (az jZ.out 0).trans rfl
      have IK : wr.cell? ⟨nK, 1, none⟩ = some (.int .i64 t140) := (az jZ.out 1).trans rfl
      have IJ : wr.cell? ⟨nK, 2, none⟩ = some (BV) := (az jZ.out 2).trans rfl
      have Ij := ay jZ.out 0
      have Ii := ay jZ.out 1
      have Ih := ay jZ.out 2
      have abQ := GH.out
      have abN := GI.out
      have W_ : wr.cell? ⟨nT, 0, none⟩ = some (.int .i64 0) := (az ku.out 0).trans rfl
      have WZ : wr.cell? ⟨nT, 1, none⟩ = some (.int .i64 0) := (az ku.out 1).trans rfl
      have WY : wr.cell? ⟨nT, 2, none⟩ = some (.slice none 0 0) := (az ku.out 2).trans rfl
      have WB := ay ku.out 0
      have Wy := ay ku.out 1
      have Wx := ay ku.out 2
      obtain ⟨adP, ab_, ahv⟩ := Kd.jY gZ.out
      subst ahv
      go_wp2
      refine bodyPost_ret (results_cell_row rfl _ _ nT 31 #[.int .i64 t139, .int .i64 t140, .slice adP fB.length ab_] (0, 0) _ rfl (by (with_reducible repeat (first | refine aB ?_ _ | refine aF ?_ | refine aC ?_ _)); refine fZ (cs := #[.int .i64 t139, .int .i64 t140, .slice none 0 0]) ?_ 2 _ rfl; (with_reducible repeat (first | refine aB ?_ _ | refine aF ?_ | refine aC ?_ _)); refine fZ (cs := #[.int .i64 t139, .int .i64 0, .slice none 0 0]) ?_ 1 _ rfl; (with_reducible repeat (first | refine aB ?_ _ | refine aF ?_ | refine aC ?_ _)); refine fZ (cs := #[.int .i64 0, .int .i64 0, .slice none 0 0]) ?_ 0 _ rfl; (with_reducible repeat (first | refine aB ?_ _ | refine aF ?_ | refine aC ?_ _)); exact ku.out) Try.underlying31 rfl (by kernel_rfl)) rfl ?_
      exact ⟨_, by first | rfl | (simp [aN, aK] <;> rfl) | (simp [*, aN, aK] <;> rfl), by (with_reducible repeat (first | apply Kd.gI | apply Kd.gG | apply Kd.iG)); exact Kd.lu (Kd.oI (p := ⟨nT, 2, none⟩) (Kd.oI (p := ⟨nT, 1, none⟩) (Kd.oI (p := ⟨nT, 0, none⟩) (Kd.xx gZ.out ku.out (by decide)) (fun _ hk => hk.2) (.int .i64 t139)) (fun _ hk => hk.2) (.int .i64 t140)) (fun _ hk => hk.2) (.slice adP fB.length ab_)) (fun _ hk => trivial), by repeat (first | (with_reducible first | exact HB.out | apply ak | apply ah | apply au | refine aA ?_ wB.out | refine aA ?_ BA.out | refine aA ?_ VJ.out) | exact HB.out)⟩
end Go.Proofs.Ytnijhjbcjeohhaa.PR

namespace Go.Proofs.Ytnijhjbcjeohhaa.PR
open Go.RowKit Go.Proofs.Ytnijhjbcjeohhaa.PQ Go.Proofs.af.aO Go.Proofs.af.aV Go.Proofs.af.aX
attribute [local go_sem] iU iR jU jT gY gX iT iQ
set_option linter.unusedVariables false
set_option linter.unusedSimpArgs false
end Go.Proofs.Ytnijhjbcjeohhaa.PR

namespace Go.Proofs.Ytnijhjbcjeohhaa.PR
open Go.RowKit Go.Proofs.Ytnijhjbcjeohhaa.PQ Go.Proofs.af.aO Go.Proofs.af.aV Go.Proofs.af.aX Go.Proofs.Ytnijhjbcjeohhaa.KK
set_option linter.unusedVariables false
set_option linter.unusedSimpArgs false
theorem _root_.Go.Proofs.Ytnijhjbcjeohhaa.KK.Rd.touch {w w' : World} {A : Option Addr} {l : List Int} {g : Nat} (h : Rd w A l) (hg : w.grownBy w' (some g)) (hne : ∀ ad, A = some ad → 0 < l.length → ad.block ≠ g) : Rd w' A l := by
 refine ⟨h.1, h.2.1, fun hp => ?_⟩
 obtain ⟨ad, e, hc⟩ := h.2.2 hp
 refine ⟨ad, e, fun j p hj => ?_⟩
 obtain ⟨c, h1, h2, h3⟩ := hc j p hj
 refine ⟨c, h1, h2, fun i u hi => ?_⟩
 have hx := h3 i u hi
 have hb : (ad.add (j * (Kd.int .i64).sz + i)).block = ad.block := uy _ _
 have hlt := cell_lt hx
 rw [hb] at hlt
 have hk := hg.block ad.block hlt (fun e' => hne ad e hp (by injection e'))
 rw [← hx]
 unfold World.cell?
 rw [hb, hk]
theorem _root_.Go.Proofs.Ytnijhjbcjeohhaa.KK.Own.touch {w w' : World} {base g : Nat} {v : Value} {l : List Int} (h : Own w base v l) (hg : w.grownBy w' (some g)) (hb : g < base) : Own w' base v l :=
 Own.uZ (mY h.row fun k hk => hg.block k (h.row.lt k hk).2 (fun e => by have := (h.row.lt k hk).1; injection e with e; omega))
structure Sg (w0 : World) (g : Nat) (L : List (TypeId × Array Value)) (w : World) : Prop where
 rows : KK.Rows w w0.heap.size L
 gr : w0.grownBy w (some g)
section
variable {w w' w0 : World} {g : Nat} {L : List (TypeId × Array Value)}
theorem Sg.of (h : aW w0 L w) : Sg w0 g L w := ⟨h.rows, KK.dJ h.be _⟩
theorem Sg.below (h : Sg w0 g L w) (hb : Below w.heap.size w w') : Sg w0 g L w' := ⟨h.rows.below hb, bU h.gr (KK.dJ hb _)⟩
theorem Sg.alloc (h : Sg w0 g L w) (o : Obj) : Sg w0 g L (w.alloc o) := h.below ((Below.refl _ _).alloc (Nat.le_refl _) o)
theorem Sg.drew (h : Sg w0 g L w) : Sg w0 g L w.drew := h.below (Below.refl _ _).drew
theorem Sg.touch (h : Sg w0 g L w) (hg : w.grownBy w' (some g)) (hlt : g < w0.heap.size) : Sg w0 g L w' :=
 ⟨h.rows.imp fun k t cs hk _ r => r.grown hg (fun e => by injection e with e; omega), bU h.gr hg⟩
variable {x0 x1 x2 x3 x4 x5 : TypeId × Array Value}
theorem Sg.r0 (h : Sg w0 g (x0 :: L) w) : Row w w0.heap.size x0.1 x0.2 := h.rows.1
theorem Sg.r1 (h : Sg w0 g (x0 :: x1 :: L) w) : Row w (w0.heap.size + 1) x1.1 x1.2 := h.rows.2.1
theorem Sg.r2 (h : Sg w0 g (x0 :: x1 :: x2 :: L) w) : Row w (w0.heap.size + 1 + 1) x2.1 x2.2 := h.rows.2.2.1
theorem Sg.r3 (h : Sg w0 g (x0 :: x1 :: x2 :: x3 :: L) w) : Row w (w0.heap.size + 1 + 1 + 1) x3.1 x3.2 := h.rows.2.2.2.1
end
theorem yN (g : Nat) (s o : Bool) (q : Int) (w : World) (R : Row w g 158 #[.bool s]) :
 Calls Try.prog 119 #[.pointer (some ⟨g, 0, none⟩), I q, .bool o] w fun e w' => e = .returned (I q) ∧ Row w' g 158 #[.bool (s || o)] ∧ w.grownBy w' (some g) := by
 have x := R.cell
 have f := R.free
 have HR := Lib.hid (R.set 0 (.bool (s || o)))
 have HG : Hid (w.grownBy (w.setCell ⟨g, 0, none⟩ (.bool (s || o))) (some g)) := Lib.hid ⟨rfl, rfl, rfl, by simp, fun k hk hne => Below.heap_setCell w _ _ k (fun e => hne (by rw [e]))⟩
 clear R
 cases s
 all_goals
  go_enter Try.func119, Try.ntmps119
  go_wp2
  go_ret
  exact ⟨rfl, by simpa using HR.out, by simpa using HG.out⟩
theorem QG (w : World) (g j : Nat) (u : Value) : w.grownBy (w.setCell ⟨g, j, none⟩ u) (some g) := ⟨rfl, rfl, rfl, by simp, fun k hk hne => Below.heap_setCell w _ _ k (fun e => hne (by rw [e]))⟩
theorem Q4 (g : Nat) (s u : Bool) (X : Array Value) (w : World) (R : Row w g 158 #[.bool s]) (W : World) (hW : W = ((w.setCell ⟨g, 0, none⟩ (.bool u)).alloc (.cells X 31)).alloc (.cells X 31)) :
 Row W (w.heap.size + 1) 31 X ∧ Row W g 158 #[.bool u] ∧ w.grownBy W (some g) := by
 subst hW
 refine ⟨?_, ?_, ?_⟩
 · have := Row.new ((w.setCell ⟨g, 0, none⟩ (.bool u)).alloc (.cells X 31)) 31 X
   simpa using this
 · exact ((R.set 0 (.bool u)).alloc _).alloc _
 · exact bU (QG w g 0 _) (KK.dJ (((Below.refl _ _).alloc (Nat.le_refl _) _).alloc (by simp) _) _)
theorem qm (g : Nat) (s o : Bool) (a b c : Int) (A : Option Addr) (n cp : Nat) (w : World) (R : Row w g 158 #[.bool s]) :
 Calls Try.prog 100 #[.pointer (some ⟨g, 0, none⟩), .agg #[I a, I b, .slice A n cp], .bool o, I c] w fun e w' => e = .returned (.agg #[I a, I b, .slice A n cp]) ∧ Row w' g 158 #[.bool (s || o)] ∧ w.grownBy w' (some g) := by
 have hg := R.lt
 have E := Lib.hid (fun u W h => Q4 g s u #[I a, I b, .slice A n cp] w R W h)
 have x := R.cell
 have f := R.free
 clear R
 cases s
 all_goals
  go_enter Try.func100, Try.ntmps100
  go_wp2
  first
   | exact bodyPost_ret (VX rfl rfl (E.out o _ rfl).1) rfl ⟨rfl, (E.out o _ rfl).2.1, (E.out o _ rfl).2.2⟩
   | exact bodyPost_ret (VX rfl rfl (E.out true _ rfl).1) rfl ⟨rfl, (E.out true _ rfl).2.1, (E.out true _ rfl).2.2⟩
end Go.Proofs.Ytnijhjbcjeohhaa.PR

namespace Go.Proofs.Ytnijhjbcjeohhaa.PR
open Go.RowKit Go.Proofs.Ytnijhjbcjeohhaa.PQ Go.Proofs.af.aO Go.Proofs.af.aV Go.Proofs.af.aX Go.Proofs.Ytnijhjbcjeohhaa.KK
set_option linter.unusedVariables false
set_option linter.unusedSimpArgs false
theorem JD {w0 w : World} {g : Nat} {s : Bool} (h : aI w0 w g s) : Row w g 158 #[.bool s] := h.1
theorem grown_of {w0 w w' : World} {g : Nat} (hB : Below w0.heap.size w0 w) (hB' : Below w0.heap.size w0 w') (hk : bC w w' g none) : w.grownBy w' (some g) :=
 ⟨hB'.os.trans hB.os.symm, hB'.tape.trans hB.tape.symm, hB'.output.trans hB.output.symm, hk.1, fun k hk' hne => hk.2 k hk' (fun e => hne (by rw [e])) (by simp)⟩
theorem v_ {w0 w w' : World} {g : Nat} (hB : Below w0.heap.size w0 w) (hg : w0.heap.size ≤ g) (h : w.grownBy w' (some g)) : Below w0.heap.size w0 w' :=
 ⟨h.os.trans hB.os, h.tape.trans hB.tape, h.output.trans hB.output, Nat.le_trans hB.size h.size, fun k hk => (h.block k (Nat.lt_of_lt_of_le hk hB.size) (fun e => by injection e with e; omega)).trans (hB.block k hk)⟩
theorem Wi {w w' : World} {g : Nat} (h : w.grownBy w' (some g)) : bC w w' g none := ⟨h.size, fun k hk hne _ => h.block k hk (fun e => hne (by injection e))⟩
theorem zY (w0 w : World) (g : Nat) (s : Bool) (bH bI : Int) (A1 : Option Addr) (c1 : Nat) (l1 : List Int) (mQ mP : Int) (A2 : Option Addr) (c2 : Nat) (l2 : List Int) (r1 r2 : Int) (r3 : List Int) (r4 : Bool)
 (R : Row w g 158 #[.bool s]) (hg : w0.heap.size ≤ g) (hB : Below w0.heap.size w0 w) (h1 : Rd w A1 l1) (hc1 : l1.length ≤ c1) (hf1 : ∀ ad, A1 = some ad → 0 < l1.length → ad.block ≠ g) (h2 : Rd w A2 l2) (hc2 : l2.length ≤ c2) (hf2 : ∀ ad, A2 = some ad → 0 < l2.length → ad.block ≠ g)
 (h : bQ.f s bH bI l1 mQ mP l2 = some (r1, r2, r3, r4)) :
 Calls Try.prog 103 #[.pointer (some ⟨g, 0, none⟩), .agg #[I bH, I bI, .slice A1 l1.length c1], .agg #[I mQ, I mP, .slice A2 l2.length c2]] w fun e w' => ∃ A c, e = .returned (.agg #[I r1, I r2, .slice A r3.length c]) ∧ Own w' w.heap.size (.slice A r3.length c) r3 ∧ Row w' g 158 #[.bool r4] ∧ w.grownBy w' (some g) := by
 refine (bQ.calls g s bH bI A1 c1 l1 mQ mP A2 c2 l2 r1 r2 r3 r4 w0 w ⟨R, hg⟩ hB h1 hc1 hf1 h2 hc2 hf2 h).mono ?_
 rintro e w' ⟨v, rfl, ho, hI, hb, hk⟩
 obtain ⟨A, c, rfl, _, _⟩ := Own.reads ho
 exact ⟨A, c, rfl, ho, hI.1, grown_of hB hb hk⟩
theorem Own.first {w : World} {base : Nat} {A : Option Addr} {c : Nat} {l : List Int} (h : Own w base (.slice A l.length c) l) (hp : 0 < l.length) : ∃ b off, A = some ⟨b, off, none⟩ ∧ w.cell? ⟨b, off, none⟩ = some (I (l.getD 0 0)) ∧ base ≤ b := by
 obtain ⟨A', c', he, _, hr⟩ := Own.reads h
 injection he with e1 _ _
 subst e1
 obtain ⟨b, off, rfl, _, hc⟩ := hr.cells hp
 refine ⟨b, off, rfl, ?_, ?_⟩
 · have := hc 0 _ (iW hp)
   simpa using this
 · exact (h.row.lt b rfl).1
theorem ZM (a b : Int) (A : Option Addr) (n c : Nat) (w : World) : (Instr.field 31 (.agg #[.int .i64 a, .int .i64 b, .slice A n c]) 2).run Try.prog w = .ok (.slice A n c) w := by
 have hu := Try.underlying31
 have hk : Try.prog.cellsOf 29 = 1 := by kernel_rfl
 simp [Instr.field, go_sem, hu, hk, asAgg]
def dO.f (nZ : Bool) (bH : Int) (bI : Int) (bu : List Int) (pM : Int) (pK : Int) (lZ : List Int) (mQ : Int) (mP : Int) (kS : List Int) (a3 : Int) (a4 : Int) : Option (Int × Int × Bool) :=
 (jl.f mQ mP kS bH bI bu).bind fun m => if 0 < m.2.2.1.length then
   ((bQ.f (nZ || m.2.2.2.1 || (lG a3 (m.2.2.1.getD 0 0)).2) mQ mP kS pM pK lZ).bind fun b => if 0 < b.2.2.1.length then some ((lG a3 (m.2.2.1.getD 0 0)).1, (gB (b.2.2.1.getD 0 0) a4).1, b.2.2.2 || (gB (b.2.2.1.getD 0 0) a4).2) else none) else none
theorem dO.calls (g : Nat) (nZ : Bool) (bH : Int) (bI : Int) (eG : Option Addr) (eH : Nat) (bu : List Int) (pM : Int) (pK : Int) (uN : Option Addr) (vU : Nat) (lZ : List Int) (mQ : Int) (mP : Int) (rX : Option Addr) (uw : Nat) (kS : List Int) (a3 : Int) (a4 : Int) (r1 : Int) (r2 : Int) (r3 : Bool) (w0 w : World) (hI : aI w0 w g nZ) (hB : Below w0.heap.size w0 w)
 (m_ : Kd.C (Kd.int .i64) w eG bu.length bu) (nS : bu.length ≤ eH) (Kq : ∀ ad, eG = some ad → 0 < bu.length → ad.block ≠ g) (J3 : Kd.C (Kd.int .i64) w uN lZ.length lZ) (Kv : lZ.length ≤ vU) (Ut : ∀ ad, uN = some ad → 0 < lZ.length → ad.block ≠ g) (JZ : Kd.C (Kd.int .i64) w rX kS.length kS) (Ku : kS.length ≤ uw) (Ko : ∀ ad, rX = some ad → 0 < kS.length → ad.block ≠ g)
 (h : dO.f nZ bH bI bu pM pK lZ mQ mP kS a3 a4 = some (r1, r2, r3)) :
 Calls Try.prog 118 #[.pointer (some ⟨g, 0, none⟩), .agg #[.int .i64 bH, .int .i64 bI, .slice eG bu.length eH, .int .i64 pM, .int .i64 pK, .slice uN lZ.length vU], .agg #[.int .i64 mQ, .int .i64 mP, .slice rX kS.length uw], .int .i64 a3, .int .i64 a4] w fun e w' => e = .returned (.tuple #[.int .i64 r1, .int .i64 r2]) ∧ aI w0 w' g r3 ∧ Below w0.heap.size w0 w' ∧ bC w w' g none := by
 unfold dO.f at h
 obtain ⟨⟨m1, m2, lm, fm, em⟩, hm, h⟩ := Option.bind_eq_some_iff.1 h
 dsimp only at h
 split at h
 case isFalse => cases h
 rename_i hp
 obtain ⟨⟨b1, b2, lb, fb⟩, hbt, h⟩ := Option.bind_eq_some_iff.1 h
 dsimp only at h
 split at h
 case isFalse => cases h
 rename_i hp2
 simp only [Option.some.injEq, Prod.mk.injEq] at h
 obtain ⟨rfl, rfl, rfl⟩ := h
 have hgl := (JD hI).lt
 have N : Hid (Sg w g [(33, #[I bH, I bI, .slice eG bu.length eH, I pM, I pK, .slice uN lZ.length vU]), (31, #[I mQ, I mP, .slice rX kS.length uw])] ((w.alloc (.cells #[I bH, I bI, .slice eG bu.length eH, I pM, I pK, .slice uN lZ.length vU] 33)).alloc (.cells #[I mQ, I mP, .slice rX kS.length uw] 31))) := Lib.hid (Sg.of (((aW.none w).push (by simp) _ _).push (by simp) _ _))
 have R := Lib.hid (((JD hI).alloc (.cells #[I bH, I bI, .slice eG bu.length eH, I pM, I pK, .slice uN lZ.length vU] 33)).alloc (.cells #[I mQ, I mP, .slice rX kS.length uw] 31))
 have HG := Lib.hid hI.2
 have HB := Lib.hid hB
 have C1 := Lib.hid nS
 have C5 := Lib.hid Kv
 have C2 := Lib.hid Ku
 have T1 := Lib.hid (fun w' (h : w.grownBy w' (some g)) => Rd.touch m_ h Kq)
 have T5 := Lib.hid (fun w' (h : w.grownBy w' (some g)) => Rd.touch J3 h Ut)
 have T2 := Lib.hid (fun w' (h : w.grownBy w' (some g)) => Rd.touch JZ h Ko)
 have F2 := Lib.hid Ko
 have F5 := Lib.hid Ut
 have HM := Lib.hid hm
 have HBT := Lib.hid hbt
 have P1 := Lib.hid hp
 have P2 := Lib.hid hp2
 have GL := Lib.hid hgl
 clear hI hB m_ nS Kq J3 Kv Ut JZ Ku Ko hm hbt hp hp2 hgl
 obtain ⟨z, hz⟩ : ∃ z, lG a3 (lm.getD 0 0) = z := ⟨_, rfl⟩
 obtain ⟨y, hy⟩ : ∃ y, gB (lb.getD 0 0) a4 = y := ⟨_, rfl⟩
 rw [hz] at HBT ⊢
 rw [hy]
 have HZ := Lib.hid hz
 have HY := Lib.hid hy
 clear hz hy
 obtain ⟨z1, z2⟩ := z
 obtain ⟨y1, y2⟩ := y
 dsimp only at HBT ⊢
 have hmf := KK.hmf
 have hfd := ZM
 go_enter Try.func118, Try.ntmps118
 go_wp2_with fail
 refine (jl.calls mQ mP rX uw kS bH bI eG eH bu m1 m2 lm fm em _ (T2.out _ N.out.gr) C2.out (T1.out _ N.out.gr) C1.out HM.out).mono ?_
 rintro e w2 ⟨v, rfl, ho, hb⟩
 obtain ⟨Am, cm, rfl, _, _⟩ := Own.reads ho
 have O := Lib.hid ho
 have N2 := Lib.hid (N.out.below hb)
 have R2 := Lib.hid (R.out.below hb R.out.lt)
 clear ho hb
 go_wp2_with fail
 refine (qm g nZ fm m1 m2 em Am lm.length cm w2 R2.out).mono ?_
 rintro e w3 ⟨rfl, hr3, hg3⟩
 have O3 := Lib.hid (Own.touch O.out hg3 (by have := GL.out; simp; omega))
 have N3 := Lib.hid (N2.out.touch hg3 GL.out)
 have R3 := Lib.hid hr3
 clear hr3 hg3
 obtain ⟨bm, om, rfl, x, _⟩ := Own.first O3.out P1.out
 have hlm : (0 : Int) < lm.length := by have := P1.out; omega
 go_wp2_with fail
 refine (sD a3 (lm.getD 0 0) w3).mono ?_
 rw [HZ.out]
 rintro e w4 ⟨rfl, hb⟩
 have N4 := Lib.hid (N3.out.below hb)
 have R4 := Lib.hid (R3.out.below hb R3.out.lt)
 clear hb x
 go_wp2_with fail
 refine (yN g (nZ || fm) z2 z1 w4 R4.out).mono ?_
 rintro e w5 ⟨rfl, hr5, hg5⟩
 have N5 := Lib.hid (N4.out.touch hg5 GL.out)
 have R5 := Lib.hid hr5
 clear hr5 hg5
 have x0 := N5.out.r0.cell
 have x1 := N5.out.r1.cell
 go_wp2_with fail
 refine (zY w0 w5 g _ mQ mP rX uw kS pM pK uN vU lZ b1 b2 lb fb R5.out HG.out (v_ HB.out HG.out N5.out.gr) (T2.out _ N5.out.gr) C2.out F2.out (T5.out _ N5.out.gr) C5.out F5.out HBT.out).mono ?_
 rintro e w6 ⟨Ab, cb, rfl, ho, hr6, hg6⟩
 have N6 := Lib.hid (N5.out.touch hg6 GL.out)
 have R6 := Lib.hid hr6
 obtain ⟨bb, ob, rfl, x, _⟩ := Own.first ho P2.out
 have hlb : (0 : Int) < lb.length := by have := P2.out; omega
 clear hr6 hg6 ho x0 x1 hlm
 go_wp2_with fail
 refine (pY (lb.getD 0 0) a4 w6).mono ?_
 rw [HY.out]
 rintro e w7 ⟨rfl, hb⟩
 have N7 := Lib.hid (N6.out.below hb)
 have R7 := Lib.hid (R6.out.below hb R6.out.lt)
 clear hb x
 go_wp2_with fail
 refine (yN g fb y2 y1 w7 R7.out).mono ?_
 rintro e w8 ⟨rfl, hr8, hg8⟩
 have N8 := Lib.hid (N7.out.touch hg8 GL.out)
 have R8 := Lib.hid hr8
 clear hr8 hg8
 go_wp2
 go_ret2
 exact ⟨rfl, ⟨R8.out, HG.out⟩, v_ HB.out HG.out N8.out.gr, Wi N8.out.gr⟩
end Go.Proofs.Ytnijhjbcjeohhaa.PR

namespace Go.Proofs.Ytnijhjbcjeohhaa.PR
open Go.RowKit Go.Proofs.Ytnijhjbcjeohhaa.PQ Go.Proofs.af.aO Go.Proofs.af.aV Go.Proofs.af.aX Go.Proofs.Ytnijhjbcjeohhaa.KK
set_option linter.unusedVariables false
set_option linter.unusedSimpArgs false
theorem xq (a b : Int) (w : World) : Calls Try.prog 93 #[I a, I b] w fun e w' => e = .returned (.tuple #[I (Ba a b).1, .bool (Ba a b).2]) ∧ Below w.heap.size w w' := by
 obtain ⟨k, hk⟩ := Yy a b
 exact mX.calls k a b _ _ w (hk k (Nat.le_refl _))
def rV (n : Nat) (L : List Int) : Nat → List Int
 | 0 => L
 | j + 1 => (rV n L j).set (j * n + j) (mx (rd (rV n L j) (((j * n + j : Nat)) : Int)) 0)
def qA (n : Nat) (l : List Int) : List Int := rV n (AZ n l) n
theorem rU (n : Nat) (L : List Int) (j : Nat) : (rV n L j).length = L.length := by
 induction j with
 | zero => rfl
 | succ j ih => simp only [rV, List.length_set, ih]
theorem uq (n : Nat) (l : List Int) : (AZ n l).length = n * n := upto_length
theorem Rq (n : Nat) (L : List Int) (hn : n ≤ 8) (hL : L.length = n * n) : ∀ (d j : Nat), j + d = n → bW.l0 (d + 1) n j n n (rV n L j) = some ((n : Int), (n : Int), rV n L n) := by
 intro d
 induction d with
 | zero =>
   intro j hj
   obtain rfl : j = n := by omega
   unfold bW.l0
   rw [if_neg (by omega)]
 | succ d ih =>
   intro j hj
   have hlt := jQ (r := n) (c := n) (i := j) (k := j) (by omega) (by omega)
   have hle : n * n ≤ 8 * 8 := Nat.mul_le_mul hn hn
   have e1 : (j : Int) * (n : Int) = ((j * n : Nat) : Int) := by push_cast; rfl
   have e2 : wrap64 ((j : Int) * (n : Int)) = ((j * n : Nat) : Int) := by rw [e1]; exact FM (by omega) (by omega)
   have e3 : wrap64 (((j * n : Nat) : Int) + (j : Int)) = ((j * n + j : Nat) : Int) := by rw [FM (by omega) (by omega)]; push_cast; rfl
   have e4 : wrap64 ((j : Int) + 1) = ((j + 1 : Nat) : Int) := by rw [FM (by omega) (by omega)]; push_cast; rfl
   unfold bW.l0
   rw [if_pos (by omega), e2, e3, if_pos (by omega), if_pos (by rw [rU, hL]; omega), e4, Int.toNat_natCast]
   exact ih (j + 1) (by omega)
theorem Rn (n : Nat) (l : List Int) (hn : n ≤ 8) (hl : l.length = n * n) : bW.f (n + 1) n n l = some ((n : Int), (n : Int), qA n l) := by
 have e1 : (l.length : Int) = (n : Int) * (n : Int) := by rw [hl]; push_cast; rfl
 unfold bW.f ql.f
 rw [if_pos ⟨rfl, by omega, by omega, by omega, by omega, e1⟩]
 simp only [Option.bind_some, Int.toNat_natCast]
 exact Rq n (AZ n l) hn (uq n l) n 0 (by omega)
theorem Eh (n : Nat) (A : Option Addr) (c : Nat) (l : List Int) (w : World) (hn : n ≤ 8) (hl : l.length = n * n) (hA : Rd w A l) (hc : l.length ≤ c) :
 Calls Try.prog 104 #[.agg #[I n, I n, .slice A l.length c]] w fun e w' => ∃ A2 c2, e = .returned (.agg #[I n, I n, .slice A2 (qA n l).length c2]) ∧ Own w' w.heap.size (.slice A2 (qA n l).length c2) (qA n l) ∧ Below w.heap.size w w' := by
 refine (bW.calls (n + 1) n n A c l _ _ _ w hA hc (Rn n l hn hl)).mono ?_
 rintro e w' ⟨v, rfl, ho, hb⟩
 obtain ⟨A2, c2, rfl, _, _⟩ := Own.reads ho
 exact ⟨A2, c2, rfl, ho, hb⟩
def iD (r n : Nat) (a p : List Int) : List Int := mulL r n r (mulL r n n a p) (yB r n a)
def oH (r n : Nat) (a p : List Int) : Bool := tY r n n a p || tY r n r (mulL r n n a p) (yB r n a)
theorem jF (r c1 c2 : Nat) (l m : List Int) : (mulL r c1 c2 l m).length = r * c2 := upto_length
theorem shape {r c : Nat} {l : List Int} (hr : r ≤ 8) (hc : c ≤ 8) (hl : l.length = r * c) : 0 ≤ (r : Int) ∧ (r : Int) ≤ 8 ∧ 0 ≤ (c : Int) ∧ (c : Int) ≤ 8 ∧ (l.length : Int) = (r : Int) * (c : Int) :=
 ⟨by omega, by omega, by omega, by omega, by rw [hl]; push_cast; rfl⟩
theorem Dy {r c1 c2 : Nat} {l m : List Int} (hr : r ≤ 8) (h1 : c1 ≤ 8) (h2 : c2 ≤ 8) (hl : l.length = r * c1) (hm : m.length = c1 * c2) : jl.f r c1 l c1 c2 m = some ((r : Int), (c2 : Int), mulL r c1 c2 l m, tY r c1 c2 l m, 0) := by
 unfold jl.f
 rw [if_pos rfl, if_pos ⟨shape hr h1 hl, shape h1 h2 hm⟩]
 simp only [Int.toNat_natCast]
theorem LH {r c : Nat} {l : List Int} (hr : r ≤ 8) (hc : c ≤ 8) (hl : l.length = r * c) : jM.f r c l = some ((c : Int), (r : Int), yB r c l) := by
 unfold jM.f
 rw [if_pos (shape hr hc hl)]
 simp only [Int.toNat_natCast]
theorem G8 (s : Bool) (a b : Int) (l : List Int) (o : Bool) (e : Int) : dI.f s a b l o e = some (a, b, l, s || o) := by
 unfold dI.f
 cases s <;> simp
theorem uz (s : Bool) (r n : Nat) (a p : List Int) (hr : r ≤ 8) (hn : n ≤ 8) (ha : a.length = r * n) (hp : p.length = n * n) :
 bQ.f s r n a n n p = some ((r : Int), (r : Int), iD r n a p, s || oH r n a p) := by
 unfold bQ.f
 simp only [Dy hr hn hn ha hp, Option.bind_some, G8, LH hr hn ha, Dy hr hn hr (jF _ _ _ _ _) (xX r n a)]
 simp [iD, oH, Bool.or_assoc]
theorem rQ {w w' : World} {r : Option Nat} (h : w.grownBy w' r) {p : Addr} (hp : w.heap.size ≤ p.block) (u : Value) : w.grownBy (w'.setCell p u) r :=
 ⟨h.os, h.tape, h.output, by simpa using h.size, fun k hk hne => (Below.heap_setCell w' p u k (by omega)).trans (h.block k hk hne)⟩
theorem yV {w w' : World} {r : Option Nat} (h : w.grownBy w' r) {C : Nat} (hp : w.heap.size ≤ C) (a b c : Value) : w.grownBy (cO w' C a b c) r :=
 rQ (rQ (rQ h (p := ⟨C, 0, none⟩) hp a) (p := ⟨C, 1, none⟩) hp b) (p := ⟨C, 2, none⟩) hp c
theorem yH (g kb pb n : Nat) (s : Bool) (A : Option Addr) (cp : Nat) (k : List Int) (q : Int) (w : World) (hn : n ≤ 8) (hk : k.length = n * 1) (hA : Rd w A k) (hcp : k.length ≤ cp)
 (Rk : Row w kb 31 #[I n, I 1, .slice A k.length cp]) (Rp : Row w pb 156 #[.pointer (some ⟨g, 0, none⟩)]) (R : Row w g 158 #[.bool s]) :
 Calls Try.prog 124 #[I q, .pointer (some ⟨kb, 0, none⟩), .pointer (some ⟨pb, 0, none⟩)] w fun e w' => ∃ A2 c2, e = .returned (.agg #[I n, I 1, .slice A2 (kY n 1 k q).length c2]) ∧ Own w' w.heap.size (.slice A2 (kY n 1 k q).length c2) (kY n 1 k q) ∧ Row w' g 158 #[.bool (s || scaleB n 1 k q)] ∧ w.grownBy w' (some g) := by
 have hgl := R.lt
 have N : Hid (Sg w g [(31, #[I 0, I 0, .slice none 0 0])] (w.alloc (.cells #[I 0, I 0, .slice none 0 0] 31))) := Lib.hid (Sg.of ((aW.none w).push (by simp) _ _))
 have HS := Lib.hid (Q3 n 1 A cp k q _ hn (by omega) hk (hA.below ((Below.refl _ _).alloc (Nat.le_refl _) (.cells #[I 0, I 0, .slice none 0 0] 31))) hcp)
 have x0 := (Rk.alloc (.cells #[I 0, I 0, .slice none 0 0] 31)).cell
 have RP := Lib.hid (Rp.alloc (.cells #[I 0, I 0, .slice none 0 0] 31))
 have RG := Lib.hid (R.alloc (.cells #[I 0, I 0, .slice none 0 0] 31))
 have GL := Lib.hid hgl
 obtain ⟨L, hL⟩ : ∃ L, kY n 1 k q = L := ⟨_, rfl⟩
 obtain ⟨b, hb⟩ : ∃ b, scaleB n 1 k q = b := ⟨_, rfl⟩
 rw [hL, hb] at HS ⊢
 clear hn hk hA hcp Rk Rp R hgl hL hb
 go_enter Try.func124, Try.ntmps124
 go_wp2_with fail
 refine HS.out.mono ?_
 rintro e w2 ⟨v, rfl, ho, hb⟩
 obtain ⟨A2, c2, rfl, _, _⟩ := Own.reads ho
 have O := Lib.hid ho
 have N2 := Lib.hid ((N.out.below hb).alloc (.cells #[I n, I 1, .slice A2 L.length c2] 31))
 have RP2 := Lib.hid (RP.out.below hb RP.out.lt)
 have RG2 := Lib.hid ((RG.out.below hb RG.out.lt).alloc (.cells #[I n, I 1, .slice A2 L.length c2] 31))
 clear ho hb x0
 have x1 := RP2.out.cell
 have x2 := RP2.out.lt
 go_wp2_with fail
 refine (qm g s b n 1 0 A2 L.length c2 _ RG2.out).mono ?_
 rintro e w3 ⟨rfl, hr3, hg3⟩
 have O3 := Lib.hid (Own.touch (O.out.alloc _) hg3 (by have := GL.out; simp; omega))
 have N3 := Lib.hid (N2.out.touch hg3 GL.out)
 have R3 := Lib.hid hr3
 clear hr3 hg3 x1 x2
 have x1 := N3.out.r0.cell
 have g1 := N3.out.r0.free
 go_wp2
 refine bodyPost_ret (VX rfl rfl (N3.out.r0.cO _ _ _)) rfl ⟨_, _, rfl, ?_, R3.out.qL (by have := GL.out; omega), yV N3.out.gr (Nat.le_refl _) _ _ _⟩
 exact (O3.out.cO (by simp) _ _ _).lower (by simp)
end Go.Proofs.Ytnijhjbcjeohhaa.PR

namespace Go.Proofs.Ytnijhjbcjeohhaa.KK
open Go.RowKit
set_option linter.unusedVariables false
set_option linter.unusedSimpArgs false
section
variable {P : Program} {md : Region.Mode} {ops : Array Oper} {Q : Exit → Act → World → Prop} {S : World → Prop} {m : Nat}
def Until (P : Program) (md : Region.Mode) (ops : Array Oper) (Q : Exit → Act → World → Prop) (S : World → Prop) (m : Nat) : Nat → Array Bool → Act → World → Prop
 | 0, L, a, w => Region.ready md ops L = [] ∧ Q .normal a w
 | f + 1, L, a, w => (Region.ready md ops L = [] → Q .normal a w) ∧
     ∀ i ∈ Region.ready md ops L, wpOp P ops Q i (fun a' w' => ((L.setIfInBounds i true).getD m true = false → S w') ∧ Until P md ops Q S m f (L.setIfInBounds i true) a' w') a w
theorem Until.any : ∀ (f : Nat) (L : Array Bool) (a : Act) (w : World), Until P md ops Q S m f L a w → wpAny P md ops Q f L a w
 | 0, _, _, _, h => h
 | f + 1, _, _, _, h => ⟨h.1, fun i hi => wpOp_mono (fun a' w' h' => Until.any f _ a' w' h'.2) (h.2 i hi)⟩
def waits (md : Region.Mode) (ops : Array Oper) (m i : Nat) : Bool := match ops[m]? with | some o => o.after.any fun e => Region.binds md e && e.on == i | none => false
theorem Ls {i : Nat} (h : waits md ops m i = true) : ∃ o e, ops[m]? = some o ∧ e ∈ o.after ∧ Region.binds md e = true ∧ e.on = i := by
 unfold waits at h
 cases ho : ops[m]? with
 | none => rw [ho] at h; cases h
 | some o =>
   rw [ho] at h
   simp only [Array.any_eq_true'] at h
   obtain ⟨e, he, hb⟩ := h
   simp only [Bool.and_eq_true, beq_iff_eq] at hb
   exact ⟨o, e, rfl, he, hb.1, hb.2⟩
theorem AL {i j : Nat} {L : Array Bool} (hi : i ∈ Region.ready md ops L) (hj : j ∈ Region.ready md ops L) : ∃ o, ops[j]? = some o ∧ ∀ e ∈ o.after, Region.binds md e = true → e.on ≠ i := by
 obtain ⟨_, o, ho, hall⟩ := mem_ready.1 hj
 refine ⟨o, ho, fun e he hb heq => ?_⟩
 have h1 := hall e he hb
 have h0 := (mem_ready.1 hi).1
 rw [heq] at h1
 by_cases hs : i < L.size
 · rw [Array.getD_eq_getD_getElem?, Array.getElem?_eq_getElem hs] at h0 h1
   simp at h0 h1
   rw [h0] at h1
   cases h1
 · rw [Array.getD_eq_getD_getElem?, Array.getElem?_eq_none (by omega)] at h1
   simp at h1
theorem Until.first {i : Nat} {oi : Oper} {v : Value} (hi : ops[i]? = some oi) (hs : Region.noSelect ops = true) (hQ : ∀ c a w, Q (.panic c) (a.put oi.dst v) w → Q (.panic c) a w) (hm : waits md ops m i = true) :
 ∀ (f : Nat) (L : Array Bool) (a : Act) (w : World),
   (∀ j oj, ops[j]? = some oj → j ≠ i → L.getD j true = false → (∀ e ∈ oj.after, Region.binds md e = true → e.on ≠ i) → oi.apart ops oj = true) →
   i ∈ Region.ready md ops L → L.getD m true = false → YieldsIf P ops S oi v a → S w →
   Until P md ops Q S m f (L.setIfInBounds i true) (a.put oi.dst v) w → Until P md ops Q S m (f + 1) L a w := by
 obtain ⟨om, em, hom, hem, hbm, abI⟩ := Ls hm
 intro f
 induction f with
 | zero =>
   intro L a w hf hr hu hy hS H
   refine ⟨fun h => (by rw [h] at hr; cases hr), fun j hj => ?_⟩
   by_cases hji : j = i
   · subst hji; exact hy.wpOp hi hS ⟨fun _ => hS, H⟩
   · have h := ready_mono hj hji
     rw [H.1] at h
     cases h
 | succ f ih =>
   intro L a w hf hr hu hy hS H
   refine ⟨fun h => (by rw [h] at hr; cases hr), fun j hj => ?_⟩
   by_cases hji : j = i
   · subst hji; exact hy.wpOp hi hS ⟨fun _ => hS, H⟩
   · obtain ⟨oj, hoj, hno⟩ := AL hr hj
     have hjm : j ≠ m := fun e => by
      subst e
      rw [hom] at hoj
      injection hoj with hoj
      subst hoj
      exact hno em hem hbm abI
     have him : i ≠ m := fun e => by
      subst e
      obtain ⟨o', ho', hn'⟩ := AL hr hr
      rw [hom] at ho'
      injection ho' with ho'
      subst ho'
      exact hn' em hem hbm abI
     have hun := (mem_ready.1 hj).1
     have h2 := wpOp_putIf hoj (hf j oj hoj hji hun hno) (fun cs b => Region.noSelect_spec hs i oi cs b hi) (fun cs b => Region.noSelect_spec hs j oj cs b hoj) hQ hy (H.2 j (ready_mono hj hji))
     refine wpOp_mono (fun a' w' h3 => ?_) h2
     obtain ⟨hy', hS', H'⟩ := h3
     have hu' : (L.setIfInBounds j true).getD m true = false := by rw [getD_set_ne true hjm]; exact hu
     have hSw : S w' := hS' (by rw [getD_set_ne true hjm, getD_set_ne true him]; exact hu)
     refine ⟨fun _ => hSw, ih _ a' w' ?_ (ready_mono hr (Ne.symm hji)) hu' hy' hSw ?_⟩
     · intro k ok hk hki hku hkn
       refine hf k ok hk hki ?_ hkn
       by_cases hjk : j = k
       · subst hjk; exact hun
       · rw [getD_set_ne true hjk] at hku; exact hku
     · rw [Array.setIfInBounds_comm _ _ hji]
       exact H'
theorem Until.take {i : Nat} {oi : Oper} {v : Value} {f : Nat} {L : Array Bool} {a : Act} {w : World} (hi : ops[i]? = some oi)
 (hs : Region.noSelect ops = true) (hf : Region.free md ops L i = true) (hr : (Region.ready md ops L).contains i = true) (hm : waits md ops m i = true) (hu : L.getD m true = false)
 (hQ : ∀ c a w, Q (.panic c) (a.put oi.dst v) w → Q (.panic c) a w) (hy : YieldsIf P ops S oi v a) (hS : S w)
 (h : Until P md ops Q S m f (L.setIfInBounds i true) (a.put oi.dst v) w) : Until P md ops Q S m (f + 1) L a w :=
 Until.first hi hs hQ hm f L a w (Region.free_spec hi hf) (by simpa using hr) hu hy hS h
theorem Until.one {i : Nat} {o : Oper} {f : Nat} {L : Array Bool} {a : Act} {w : World} (hr : Region.ready md ops L = [i]) (ho : ops[i]? = some o)
 (h : ∀ K' : Act → World → Prop, Shut (∀ a w, ((L.setIfInBounds i true).getD m true = false → S w) → Until P md ops Q S m f (L.setIfInBounds i true) a w → K' a w) → if Region.wanted o (yielded ops a.tmps) = true then Oper.wp P o a w K' Q else K' (a.put o.dst undef) w) :
 Until P md ops Q S m (f + 1) L a w := by
 refine ⟨fun h0 => (by rw [hr] at h0; cases h0), fun j hj => ?_⟩
 rw [hr] at hj
 obtain rfl := List.mem_singleton.1 hj
 have h1 := h (fun a' w' => ((L.setIfInBounds j true).getD m true = false → S w') ∧ Until P md ops Q S m f (L.setIfInBounds j true) a' w') (fun a w hS hU => ⟨hS, hU⟩)
 unfold wpOp
 simp only [ho]
 split
 · rename_i hw
   rw [if_pos hw] at h1
   exact .inl h1
 · rename_i hw
   rw [if_neg hw] at h1
   exact h1
theorem Until.done {L : Array Bool} {a : Act} {w : World} (hr : Region.ready md ops L = []) (h : Q .normal a w) : ∀ f, Until P md ops Q S m f L a w
 | 0 => ⟨hr, h⟩
 | _ + 1 => ⟨fun _ => h, by rw [hr]; simp⟩
theorem yI {id : Nat} {a : Act} {w : World} (S : World → Prop) (m : Nat) (hm : P.follows .mixedOrders = true) (hS : S w.drew) (h : S w.drew → Until P .any ops (NoPanic Q) S m ops.size (Array.replicate ops.size false) a w.drew) : (Code.region id ops true).wp P Q a w :=
 wp_region_noPanic (wp_region_any hm (Until.any _ _ _ _ (h hS)))
end
end Go.Proofs.Ytnijhjbcjeohhaa.KK

