import Derived.Test.YtninmcmajbfccaaZ12
/- Joined by a program of this session's own (wip/pack.py) out of its texts; the parts PQ, PR, PS were laid by its own program (wip/print-patch.py over the kit's print) out of the translation; Lean checks all. -/
-- Laid by a program of this session's own (wip/print-patch.py over the kit's print), out of the translation; Lean checks it.
namespace Go.Proofs.Ytninmcmajbfccaa.PR
open Go.RowKit Go.Proofs.Ytninmcmajbfccaa.PQ Go.Proofs.YtninmcmajbfccaaW.PrintWords Go.Proofs.YtninmcmajbfccaaW.PrintLast Go.Proofs.YtninmcmajbfccaaW.PrintMore
attribute [local go_sem] max2_int min2_int max_two min_two max_three min_three max_four min_four   -- for this text's walks alone
set_option linter.unusedVariables false
set_option linter.unusedSimpArgs false

-- function 32: kalman_may: in PQ

def IsS77 (w0 W : World) (g : Nat) (f0 : Bool) : Prop := W.heap[g]? = some (.cells #[.bool f0] 77 (0, 0)) ∧ w0.heap.size ≤ g
theorem IsS77.grown {w0 W : World} {g : Nat} {f0 : Bool} {W1 : World} {row : Option Nat} (h : IsS77 w0 W g f0) (hw : W.grownBy W1 row) (hne : some g ≠ row) : IsS77 w0 W1 g f0 := by
  obtain ⟨hb, hg⟩ := h
  exact ⟨blk_grown hb hw hne, hg⟩
theorem IsS77.kept {w0 W : World} {g : Nat} {f0 : Bool} {W1 : World} {S : Nat → Prop} (h : IsS77 w0 W g f0) (hk : Kept W W1 S) (hne : ¬ S g) : IsS77 w0 W1 g f0 := by
  obtain ⟨hb, hg⟩ := h
  exact ⟨blk_kept hb hk hne, hg⟩
theorem IsS77.below {w0 W : World} {g : Nat} {f0 : Bool} {W1 : World} (h : IsS77 w0 W g f0) (hw : Below W.heap.size W W1) : IsS77 w0 W1 g f0 := h.grown (grown_of_below hw none) (by simp)
theorem IsS77.alloc {w0 W : World} {g : Nat} {f0 : Bool} (h : IsS77 w0 W g f0) (o : Obj) : IsS77 w0 (W.alloc o) g f0 := h.below (below_alloc (Below.refl _ _) o)
theorem IsS77.drewN {w0 W : World} {g : Nat} {f0 : Bool} (h : IsS77 w0 W g f0) (m : Nat) : IsS77 w0 (W.drewN m) g f0 := h
theorem IsS77.drew {w0 W : World} {g : Nat} {f0 : Bool} (h : IsS77 w0 W g f0) : IsS77 w0 W.drew g f0 := h
theorem IsS77.at_ {w0 W : World} {g : Nat} {f0 : Bool} {w' : World} {m : Nat} (hq : W.drewN m = w') (h : IsS77 w0 W g f0) : IsS77 w0 w' g f0 := by subst hq; exact IsS77.drewN h m
theorem IsS77.apart {w0 W : World} {g : Nat} {f0 : Bool} {α : Type} {d : Kd α} {e : Nat} {base : Nat} {ok : Nat → Prop} {v : Value} {xs : List α} (h : IsS77 w0 W g f0) (ho : d.R e W base ok v xs) (ht : ∀ q, q ∈ e :: d.E → q ≠ 77) : d.R e W base (fun k => ok k ∧ k ≠ g) v xs := by
  obtain ⟨hb, hg⟩ := h
  exact Kd.R_types ho hb ht
theorem IsS77.own_ne {w0 W : World} {g : Nat} {f0 : Bool} {α : Type} {d : Kd α} {e : Nat} {base : Nat} {ok : Nat → Prop} {v : Value} {xs : List α} (h : IsS77 w0 W g f0) (ho : d.R e W base ok v xs) (ht : e ≠ 77) : some g ≠ v.ownBlock := by
  obtain ⟨hb, hg⟩ := h
  exact Kd.R_ne ho hb ht
theorem IsS77.lt {w0 W : World} {g : Nat} {f0 : Bool} (h : IsS77 w0 W g f0) : g < W.heap.size := by
  obtain ⟨hb, hg⟩ := h
  exact blk_lt hb
theorem IsS77.ge {w0 W : World} {g : Nat} {f0 : Bool} (h : IsS77 w0 W g f0) : w0.heap.size ≤ g := by
  obtain ⟨hb, hg⟩ := h
  exact hg
theorem IsS77.far {w0 W : World} {g : Nat} {f0 : Bool} {p : Addr} (h : IsS77 w0 W g f0) (hne : g ≠ p.block) (u : Value) : IsS77 w0 (W.setCell p u) g f0 := by
  obtain ⟨hb, hg⟩ := h
  exact ⟨blk_far hb hne u, hg⟩
theorem cellS77_0 {W : World} {g : Nat} {f0 : Bool} (h : W.heap[g]? = some (.cells #[.bool f0] 77 (0, 0))) : W.cell? ⟨g, 0, none⟩ = some (.bool f0) := (blk_cell h 0).trans rfl
theorem IsS77.set_0 {w0 W : World} {g : Nat} {f0 : Bool} (h : IsS77 w0 W g f0) (x : Bool) : IsS77 w0 (W.setCell ⟨g, 0, none⟩ (.bool x)) g x := by
  obtain ⟨hb, hg⟩ := h
  exact ⟨by simpa using blk_set hb 0 (.bool x), hg⟩
theorem IsS77.new (w0 W : World) (f0 : Bool) (hB : Below w0.heap.size w0 W) : IsS77 w0 (W.alloc (.cells #[.bool f0] 77)) W.heap.size f0 := ⟨by simpa using heap_alloc_new W _, hB.size⟩

/-! ### kalman_work_mat: function 45 -/
def kalman_work_mat.f (s0_0 : Bool) (a1_0 : Int) (a1_1 : Int) (l1_2 : List Int) (a2 : Bool) (a3 : Int) : Option (Int × Int × List Int × Bool) := if s0_0 = true then (some (a1_0, a1_1, l1_2, true)) else (some (a1_0, a1_1, l1_2, a2))
set_option maxHeartbeats 8000000 in
set_option maxRecDepth 100000 in
theorem kalman_work_mat.calls (g : Nat) (s0_0 : Bool) (a1_0 : Int) (a1_1 : Int) (P1_2_ : Nat → Prop) (u9000_ : Value) (l1_2 : List Int) (a2 : Bool) (a3 : Int) (r1 : Int) (r2 : Int) (r3 : List Int) (r4 : Bool) (w0 w : World) (hI : IsS77 w0 w g s0_0) (hB : Below w0.heap.size w0 w) (ho1_2 : Kd.R (Kd.int .i64) 22 w w0.heap.size P1_2_ u9000_ l1_2) (h : kalman_work_mat.f s0_0 a1_0 a1_1 l1_2 a2 a3 = some (r1, r2, r3, r4)) :
    Calls Try.prog 45 #[.pointer (some ⟨g, 0, none⟩), .agg #[.int .i64 a1_0, .int .i64 a1_1, u9000_], .bool a2, .int .i64 a3] w fun e w' => ∃ v2_ : Value, e = .returned (.agg #[.int .i64 r1, .int .i64 r2, v2_]) ∧ Kd.R (Kd.int .i64) 22 w' w0.heap.size (fun k_ => (P1_2_ k_ ∨ w.heap.size ≤ k_)) v2_ r3 ∧ IsS77 w0 w' g r4 ∧ Below w0.heap.size w0 w' ∧ Kept w w' (fun k_ => (P1_2_ k_) ∨ k_ = g) := by
  have hu26 := Try.underlying26
  have HO1_2 := Aside0.mk (show Kd.R (Kd.int .i64) 22 w w0.heap.size (fun k_ => (P1_2_ k_ ∨ w.heap.size ≤ k_)) u9000_ l1_2 from Kd.R_mono ho1_2 (fun k_ hk => (.inl hk)))
  have HI0 := Aside0.mk hI
  have HL := Aside0.mk hB.size
  clear hI
  have HK := Aside0.mk (Kept.refl w (fun k_ => (P1_2_ k_) ∨ k_ = g))
  have HW0 := Aside0.mk hB.size
  have HB := Aside0.mk hB
  clear hB
  have H : (if s0_0 = true then (some (a1_0, a1_1, l1_2, true)) else (some (a1_0, a1_1, l1_2, a2))) = some (r1, r2, r3, r4) := h
  clear h
  by_cases c5 : s0_0 = true
  · subst c5
    have H1 : (some (a1_0, a1_1, l1_2, true)) = some (r1, r2, r3, r4) := by rw [if_pos rfl] at H; exact H
    clear H
    have H := H1
    clear H1
    simp only [Option.some.injEq, Prod.mk.injEq] at H
    obtain ⟨rfl, rfl, rfl, rfl⟩ := H
    obtain ⟨Ao6, co6, eo6⟩ := Kd.R_slice HO1_2.out
    subst eo6
    go_enter Try.func45, Try.ntmps45
    go_wp2_with (first | ((with_reducible refine gate_dst (N := 5) rfl ?_); refine box_event ?hg (N := 5) ?hd (cs := #[.int .i64 a1_0, .int .i64 a1_1, .slice Ao6 l1_2.length co6]) (t := 26) ?hr ?_; (case hd => rfl); (case hg => rfl); (case hr => first | (go_simp; done) | (go_simp; rfl)); intro gb124 hg w7 hbox hb; have n0_ := Aside0.mk (Kd.R_below (by (with_reducible repeat (first | apply Kd.R_alloc | apply Kd.R_drewN | apply Kd.R_drew)); exact HO1_2.out) hb); have n1_ := Aside0.mk (IsS77.below (by repeat (first | (with_reducible first | exact HI0.out | apply IsS77.alloc | apply IsS77.drewN | apply IsS77.drew | apply IsS77.set_0) | exact HI0.out)) hb); have n2_ := Aside0.mk (Kept.below (S := (fun k_ => (P1_2_ k_) ∨ k_ = g)) (by repeat (first | (with_reducible first | exact HK.out | apply Kept.alloc | apply Kept.drewN | apply Kept.drew | refine Kept.setCell ?_ (.inl (.inr rfl)) _) | exact HK.out)) hb); have n3_ := Aside0.mk (below_step (by repeat (first | (with_reducible first | exact HB.out | apply below_alloc | apply pw_below_drewN | apply below_drew1 | refine below_set ?_ (IsS77.ge HI0.out)) | exact HB.out)) hb); have n4_ := Aside0.mk (hbox); have n5_ := Aside0.mk ((by rw [hg]; exact (by first | exact HK.out.1 | exact (show Kept w _ (fun k_ => (P1_2_ k_) ∨ k_ = g) from by repeat (first | (with_reducible first | exact HK.out | apply Kept.alloc | apply Kept.drewN | apply Kept.drew | refine Kept.setCell ?_ (.inl (.inr rfl)) _) | exact HK.out)).1) : w.heap.size ≤ gb124)); have n6_ := Aside0.mk ((by rw [hg]; exact (below_size (by repeat (first | (with_reducible first | exact HB.out | apply below_alloc | apply pw_below_drewN | apply below_drew1 | refine below_set ?_ (IsS77.ge HI0.out)) | exact HB.out))) : w0.heap.size ≤ gb124)); have n7_ := Aside0.mk ((by rw [hg]; exact Nat.ne_of_lt (IsS77.lt (show IsS77 w0 _ g true from by repeat (first | (with_reducible first | exact HI0.out | apply IsS77.alloc | apply IsS77.drewN | apply IsS77.drew | apply IsS77.set_0) | exact HI0.out))) : g ≠ gb124)); have n8_ := Aside0.mk ((by rw [hg]; exact Nat.ne_of_gt (IsS77.lt (show IsS77 w0 _ g true from by repeat (first | (with_reducible first | exact HI0.out | apply IsS77.alloc | apply IsS77.drewN | apply IsS77.drew | apply IsS77.set_0) | exact HI0.out))) : gb124 ≠ g)); clear HO1_2; clear HI0; clear HK; clear HB; have HO1_2 := n0_; have HI0 := n1_; have HK := n2_; have HB := n3_; have BK124 := n4_; have GW124 := n5_; have GE124 := n6_; have NB0_124 := n7_; have NB124_0 := n8_; clear n0_ n1_ n2_ n3_ n4_ n5_ n6_ n7_ n8_; clear hb hbox hg) | ((with_reducible refine gate_dst (N := 8) rfl ?_); refine box_event ?hg (N := 8) ?hd (cs := #[.int .i64 0, .int .i64 0, .slice none 0 0]) (t := 26) ?hr ?_; (case hd => rfl); (case hg => rfl); (case hr => first | (go_simp; done) | (go_simp; rfl)); intro gb125 hg w8 hbox hb; have n0_ := Aside0.mk (Kd.R_below (by (with_reducible repeat (first | apply Kd.R_alloc | apply Kd.R_drewN | apply Kd.R_drew)); exact HO1_2.out) hb); have n1_ := Aside0.mk (IsS77.below (by repeat (first | (with_reducible first | exact HI0.out | apply IsS77.alloc | apply IsS77.drewN | apply IsS77.drew | apply IsS77.set_0 | refine IsS77.far ?_ NB0_124.out _) | exact HI0.out)) hb); have n2_ := Aside0.mk (blk_below (g := gb124) (o := .cells #[.int .i64 a1_0, .int .i64 a1_1, .slice Ao6 l1_2.length co6] 26 (0, 0)) (by (with_reducible repeat (first | refine blk_drewN ?_ _ | refine blk_drew ?_ | refine blk_alloc ?_ _)); exact BK124.out) hb); have n3_ := Aside0.mk (Kept.below (S := (fun k_ => (P1_2_ k_) ∨ k_ = g)) (by repeat (first | (with_reducible first | exact HK.out | apply Kept.alloc | apply Kept.drewN | apply Kept.drew | refine Kept.setCell ?_ (.inl (.inr rfl)) _ | refine Kept.setCell ?_ (.inr GW124.out) _) | exact HK.out)) hb); have n4_ := Aside0.mk (below_step (by repeat (first | (with_reducible first | exact HB.out | apply below_alloc | apply pw_below_drewN | apply below_drew1 | refine below_set ?_ (IsS77.ge HI0.out) | refine below_set ?_ GE124.out) | exact HB.out)) hb); have n5_ := Aside0.mk (hbox); have n6_ := Aside0.mk ((by rw [hg]; exact (by first | exact HK.out.1 | exact (show Kept w _ (fun k_ => (P1_2_ k_) ∨ k_ = g) from by repeat (first | (with_reducible first | exact HK.out | apply Kept.alloc | apply Kept.drewN | apply Kept.drew | refine Kept.setCell ?_ (.inl (.inr rfl)) _ | refine Kept.setCell ?_ (.inr GW124.out) _) | exact HK.out)).1) : w.heap.size ≤ gb125)); have n7_ := Aside0.mk ((by rw [hg]; exact (below_size (by repeat (first | (with_reducible first | exact HB.out | apply below_alloc | apply pw_below_drewN | apply below_drew1 | refine below_set ?_ (IsS77.ge HI0.out) | refine below_set ?_ GE124.out) | exact HB.out))) : w0.heap.size ≤ gb125)); have n8_ := Aside0.mk ((by rw [hg]; exact Nat.ne_of_lt (blk_lt (g := gb124) (o := .cells #[.int .i64 a1_0, .int .i64 a1_1, .slice Ao6 l1_2.length co6] 26 (0, 0)) (by (with_reducible repeat (first | refine blk_drewN ?_ _ | refine blk_drew ?_ | refine blk_alloc ?_ _)); exact BK124.out)) : gb124 ≠ gb125)); have n9_ := Aside0.mk ((by rw [hg]; exact Nat.ne_of_gt (blk_lt (g := gb124) (o := .cells #[.int .i64 a1_0, .int .i64 a1_1, .slice Ao6 l1_2.length co6] 26 (0, 0)) (by (with_reducible repeat (first | refine blk_drewN ?_ _ | refine blk_drew ?_ | refine blk_alloc ?_ _)); exact BK124.out)) : gb125 ≠ gb124)); have n10_ := Aside0.mk ((by rw [hg]; exact Nat.ne_of_lt (IsS77.lt (show IsS77 w0 _ g true from by repeat (first | (with_reducible first | exact HI0.out | apply IsS77.alloc | apply IsS77.drewN | apply IsS77.drew | apply IsS77.set_0 | refine IsS77.far ?_ NB0_124.out _) | exact HI0.out))) : g ≠ gb125)); have n11_ := Aside0.mk ((by rw [hg]; exact Nat.ne_of_gt (IsS77.lt (show IsS77 w0 _ g true from by repeat (first | (with_reducible first | exact HI0.out | apply IsS77.alloc | apply IsS77.drewN | apply IsS77.drew | apply IsS77.set_0 | refine IsS77.far ?_ NB0_124.out _) | exact HI0.out))) : gb125 ≠ g)); clear HO1_2; clear HI0; clear BK124; clear HK; clear HB; have HO1_2 := n0_; have HI0 := n1_; have BK124 := n2_; have HK := n3_; have HB := n4_; have BK125 := n5_; have GW125 := n6_; have GE125 := n7_; have NB124_125 := n8_; have NB125_124 := n9_; have NB0_125 := n10_; have NB125_0 := n11_; clear n0_ n1_ n2_ n3_ n4_ n5_ n6_ n7_ n8_ n9_ n10_ n11_; clear hb hbox hg; obtain ⟨HGz9, hgz9⟩ := HI0.out; have hcz9_0 := cellS77_0 HGz9; have hfz9_0 := blk_frozen HGz9 0; clear HGz9 hgz9; have hnb10 := NB124_125.out; have hnc10 := NB125_124.out; have hnb11 := NB124_0.out; have hnc11 := NB0_124.out; have hcz12_0 : w8.cell? ⟨gb124, 0, none⟩ = some (.int .i64 a1_0) := (blk_cell BK124.out 0).trans rfl; have hcz12_1 : w8.cell? ⟨gb124, 1, none⟩ = some (.int .i64 a1_1) := (blk_cell BK124.out 1).trans rfl; have hcz12_2 : w8.cell? ⟨gb124, 2, none⟩ = some (.slice Ao6 l1_2.length co6) := (blk_cell BK124.out 2).trans rfl; have hfz12_0 := blk_frozen BK124.out 0; have hfz12_1 := blk_frozen BK124.out 1; have hfz12_2 := blk_frozen BK124.out 2; have hnb13 := NB125_0.out; have hnc13 := NB0_125.out; have hcz14_0 : w8.cell? ⟨gb125, 0, none⟩ = some (.int .i64 0) := (blk_cell BK125.out 0).trans rfl; have hcz14_1 : w8.cell? ⟨gb125, 1, none⟩ = some (.int .i64 0) := (blk_cell BK125.out 1).trans rfl; have hcz14_2 : w8.cell? ⟨gb125, 2, none⟩ = some (.slice none 0 0) := (blk_cell BK125.out 2).trans rfl; have hfz14_0 := blk_frozen BK125.out 0; have hfz14_1 := blk_frozen BK125.out 1; have hfz14_2 := blk_frozen BK125.out 2))
    refine bodyPost_ret (results_cell_row rfl _ _ gb125 26 #[.int .i64 a1_0, .int .i64 a1_1, .slice Ao6 l1_2.length co6] (0, 0) _ rfl (by (with_reducible repeat (first | refine blk_drewN ?_ _ | refine blk_drew ?_ | refine blk_alloc ?_ _)); refine blk_put (cs := #[.int .i64 a1_0, .int .i64 a1_1, .slice none 0 0]) ?_ 2 _ rfl; (with_reducible repeat (first | refine blk_drewN ?_ _ | refine blk_drew ?_ | refine blk_alloc ?_ _)); refine blk_put (cs := #[.int .i64 a1_0, .int .i64 0, .slice none 0 0]) ?_ 1 _ rfl; (with_reducible repeat (first | refine blk_drewN ?_ _ | refine blk_drew ?_ | refine blk_alloc ?_ _)); refine blk_put (cs := #[.int .i64 0, .int .i64 0, .slice none 0 0]) ?_ 0 _ rfl; (with_reducible repeat (first | refine blk_drewN ?_ _ | refine blk_drew ?_ | refine blk_alloc ?_ _)); refine blk_far ?_ NB125_0.out _; (with_reducible repeat (first | refine blk_drewN ?_ _ | refine blk_drew ?_ | refine blk_alloc ?_ _)); exact BK125.out) Try.underlying26 rfl (by kernel_rfl)) rfl ?_
    exact ⟨_, by first | rfl | (simp [errW_none, errW_some] <;> rfl) | (simp [*, errW_none, errW_some] <;> rfl), by (with_reducible repeat (first | apply Kd.R_alloc | apply Kd.R_drewN | apply Kd.R_drew)); exact Kd.R_mono (Kd.R_far (p := ⟨gb125, 2, none⟩) (Kd.R_far (p := ⟨gb125, 1, none⟩) (Kd.R_far (p := ⟨gb125, 0, none⟩) (Kd.R_far (p := ⟨g, 0, none⟩) (Kd.R_types (IsS77.apart HI0.out HO1_2.out (by decide)) BK125.out (by decide)) (fun _ hk => hk.1.2) (.bool true)) (fun _ hk => hk.2) (.int .i64 a1_0)) (fun _ hk => hk.2) (.int .i64 a1_1)) (fun _ hk => hk.2) (.slice Ao6 l1_2.length co6)) (fun _ hk => hk.1.1), by repeat (first | (with_reducible first | exact HI0.out | apply IsS77.alloc | apply IsS77.drewN | apply IsS77.drew | apply IsS77.set_0 | refine IsS77.far ?_ NB0_124.out _ | refine IsS77.far ?_ NB0_125.out _) | exact HI0.out), by repeat (first | (with_reducible first | exact HB.out | apply below_alloc | apply pw_below_drewN | apply below_drew1 | refine below_set ?_ (IsS77.ge HI0.out) | refine below_set ?_ GE124.out | refine below_set ?_ GE125.out) | exact HB.out), by repeat (first | (with_reducible first | exact HK.out | apply Kept.alloc | apply Kept.drewN | apply Kept.drew | refine Kept.setCell ?_ (.inl (.inr rfl)) _ | refine Kept.setCell ?_ (.inr GW124.out) _ | refine Kept.setCell ?_ (.inr GW125.out) _) | exact HK.out)⟩
  · replace c5 := Bool.eq_false_iff.mpr c5
    subst c5
    have H1 : (some (a1_0, a1_1, l1_2, a2)) = some (r1, r2, r3, r4) := by rw [if_neg (show ¬ (false = true) by decide)] at H; exact H
    clear H
    have H := H1
    clear H1
    simp only [Option.some.injEq, Prod.mk.injEq] at H
    obtain ⟨rfl, rfl, rfl, rfl⟩ := H
    obtain ⟨Ao15, co15, eo15⟩ := Kd.R_slice HO1_2.out
    subst eo15
    go_enter Try.func45, Try.ntmps45
    go_wp2_with (first | ((with_reducible refine gate_dst (N := 5) rfl ?_); refine box_event ?hg (N := 5) ?hd (cs := #[.int .i64 a1_0, .int .i64 a1_1, .slice Ao15 l1_2.length co15]) (t := 26) ?hr ?_; (case hd => rfl); (case hg => rfl); (case hr => first | (go_simp; done) | (go_simp; rfl)); intro gb124 hg w16 hbox hb; have n0_ := Aside0.mk (Kd.R_below (by (with_reducible repeat (first | apply Kd.R_alloc | apply Kd.R_drewN | apply Kd.R_drew)); exact HO1_2.out) hb); have n1_ := Aside0.mk (IsS77.below (by repeat (first | (with_reducible first | exact HI0.out | apply IsS77.alloc | apply IsS77.drewN | apply IsS77.drew | apply IsS77.set_0) | exact HI0.out)) hb); have n2_ := Aside0.mk (Kept.below (S := (fun k_ => (P1_2_ k_) ∨ k_ = g)) (by repeat (first | (with_reducible first | exact HK.out | apply Kept.alloc | apply Kept.drewN | apply Kept.drew | refine Kept.setCell ?_ (.inl (.inr rfl)) _) | exact HK.out)) hb); have n3_ := Aside0.mk (below_step (by repeat (first | (with_reducible first | exact HB.out | apply below_alloc | apply pw_below_drewN | apply below_drew1 | refine below_set ?_ (IsS77.ge HI0.out)) | exact HB.out)) hb); have n4_ := Aside0.mk (hbox); have n5_ := Aside0.mk ((by rw [hg]; exact (by first | exact HK.out.1 | exact (show Kept w _ (fun k_ => (P1_2_ k_) ∨ k_ = g) from by repeat (first | (with_reducible first | exact HK.out | apply Kept.alloc | apply Kept.drewN | apply Kept.drew | refine Kept.setCell ?_ (.inl (.inr rfl)) _) | exact HK.out)).1) : w.heap.size ≤ gb124)); have n6_ := Aside0.mk ((by rw [hg]; exact (below_size (by repeat (first | (with_reducible first | exact HB.out | apply below_alloc | apply pw_below_drewN | apply below_drew1 | refine below_set ?_ (IsS77.ge HI0.out)) | exact HB.out))) : w0.heap.size ≤ gb124)); have n7_ := Aside0.mk ((by rw [hg]; exact Nat.ne_of_lt (IsS77.lt (show IsS77 w0 _ g false from by repeat (first | (with_reducible first | exact HI0.out | apply IsS77.alloc | apply IsS77.drewN | apply IsS77.drew | apply IsS77.set_0) | exact HI0.out))) : g ≠ gb124)); have n8_ := Aside0.mk ((by rw [hg]; exact Nat.ne_of_gt (IsS77.lt (show IsS77 w0 _ g false from by repeat (first | (with_reducible first | exact HI0.out | apply IsS77.alloc | apply IsS77.drewN | apply IsS77.drew | apply IsS77.set_0) | exact HI0.out))) : gb124 ≠ g)); clear HO1_2; clear HI0; clear HK; clear HB; have HO1_2 := n0_; have HI0 := n1_; have HK := n2_; have HB := n3_; have BK124 := n4_; have GW124 := n5_; have GE124 := n6_; have NB0_124 := n7_; have NB124_0 := n8_; clear n0_ n1_ n2_ n3_ n4_ n5_ n6_ n7_ n8_; clear hb hbox hg) | ((with_reducible refine gate_dst (N := 8) rfl ?_); refine box_event ?hg (N := 8) ?hd (cs := #[.int .i64 0, .int .i64 0, .slice none 0 0]) (t := 26) ?hr ?_; (case hd => rfl); (case hg => rfl); (case hr => first | (go_simp; done) | (go_simp; rfl)); intro gb125 hg w17 hbox hb; have n0_ := Aside0.mk (Kd.R_below (by (with_reducible repeat (first | apply Kd.R_alloc | apply Kd.R_drewN | apply Kd.R_drew)); exact HO1_2.out) hb); have n1_ := Aside0.mk (IsS77.below (by repeat (first | (with_reducible first | exact HI0.out | apply IsS77.alloc | apply IsS77.drewN | apply IsS77.drew | apply IsS77.set_0 | refine IsS77.far ?_ NB0_124.out _) | exact HI0.out)) hb); have n2_ := Aside0.mk (blk_below (g := gb124) (o := .cells #[.int .i64 a1_0, .int .i64 a1_1, .slice Ao15 l1_2.length co15] 26 (0, 0)) (by (with_reducible repeat (first | refine blk_drewN ?_ _ | refine blk_drew ?_ | refine blk_alloc ?_ _)); exact BK124.out) hb); have n3_ := Aside0.mk (Kept.below (S := (fun k_ => (P1_2_ k_) ∨ k_ = g)) (by repeat (first | (with_reducible first | exact HK.out | apply Kept.alloc | apply Kept.drewN | apply Kept.drew | refine Kept.setCell ?_ (.inl (.inr rfl)) _ | refine Kept.setCell ?_ (.inr GW124.out) _) | exact HK.out)) hb); have n4_ := Aside0.mk (below_step (by repeat (first | (with_reducible first | exact HB.out | apply below_alloc | apply pw_below_drewN | apply below_drew1 | refine below_set ?_ (IsS77.ge HI0.out) | refine below_set ?_ GE124.out) | exact HB.out)) hb); have n5_ := Aside0.mk (hbox); have n6_ := Aside0.mk ((by rw [hg]; exact (by first | exact HK.out.1 | exact (show Kept w _ (fun k_ => (P1_2_ k_) ∨ k_ = g) from by repeat (first | (with_reducible first | exact HK.out | apply Kept.alloc | apply Kept.drewN | apply Kept.drew | refine Kept.setCell ?_ (.inl (.inr rfl)) _ | refine Kept.setCell ?_ (.inr GW124.out) _) | exact HK.out)).1) : w.heap.size ≤ gb125)); have n7_ := Aside0.mk ((by rw [hg]; exact (below_size (by repeat (first | (with_reducible first | exact HB.out | apply below_alloc | apply pw_below_drewN | apply below_drew1 | refine below_set ?_ (IsS77.ge HI0.out) | refine below_set ?_ GE124.out) | exact HB.out))) : w0.heap.size ≤ gb125)); have n8_ := Aside0.mk ((by rw [hg]; exact Nat.ne_of_lt (blk_lt (g := gb124) (o := .cells #[.int .i64 a1_0, .int .i64 a1_1, .slice Ao15 l1_2.length co15] 26 (0, 0)) (by (with_reducible repeat (first | refine blk_drewN ?_ _ | refine blk_drew ?_ | refine blk_alloc ?_ _)); exact BK124.out)) : gb124 ≠ gb125)); have n9_ := Aside0.mk ((by rw [hg]; exact Nat.ne_of_gt (blk_lt (g := gb124) (o := .cells #[.int .i64 a1_0, .int .i64 a1_1, .slice Ao15 l1_2.length co15] 26 (0, 0)) (by (with_reducible repeat (first | refine blk_drewN ?_ _ | refine blk_drew ?_ | refine blk_alloc ?_ _)); exact BK124.out)) : gb125 ≠ gb124)); have n10_ := Aside0.mk ((by rw [hg]; exact Nat.ne_of_lt (IsS77.lt (show IsS77 w0 _ g false from by repeat (first | (with_reducible first | exact HI0.out | apply IsS77.alloc | apply IsS77.drewN | apply IsS77.drew | apply IsS77.set_0 | refine IsS77.far ?_ NB0_124.out _) | exact HI0.out))) : g ≠ gb125)); have n11_ := Aside0.mk ((by rw [hg]; exact Nat.ne_of_gt (IsS77.lt (show IsS77 w0 _ g false from by repeat (first | (with_reducible first | exact HI0.out | apply IsS77.alloc | apply IsS77.drewN | apply IsS77.drew | apply IsS77.set_0 | refine IsS77.far ?_ NB0_124.out _) | exact HI0.out))) : gb125 ≠ g)); clear HO1_2; clear HI0; clear BK124; clear HK; clear HB; have HO1_2 := n0_; have HI0 := n1_; have BK124 := n2_; have HK := n3_; have HB := n4_; have BK125 := n5_; have GW125 := n6_; have GE125 := n7_; have NB124_125 := n8_; have NB125_124 := n9_; have NB0_125 := n10_; have NB125_0 := n11_; clear n0_ n1_ n2_ n3_ n4_ n5_ n6_ n7_ n8_ n9_ n10_ n11_; clear hb hbox hg; obtain ⟨HGz18, hgz18⟩ := HI0.out; have hcz18_0 := cellS77_0 HGz18; have hfz18_0 := blk_frozen HGz18 0; clear HGz18 hgz18; have hnb19 := NB124_125.out; have hnc19 := NB125_124.out; have hnb20 := NB124_0.out; have hnc20 := NB0_124.out; have hcz21_0 : w17.cell? ⟨gb124, 0, none⟩ = some (.int .i64 a1_0) := (blk_cell BK124.out 0).trans rfl; have hcz21_1 : w17.cell? ⟨gb124, 1, none⟩ = some (.int .i64 a1_1) := (blk_cell BK124.out 1).trans rfl; have hcz21_2 : w17.cell? ⟨gb124, 2, none⟩ = some (.slice Ao15 l1_2.length co15) := (blk_cell BK124.out 2).trans rfl; have hfz21_0 := blk_frozen BK124.out 0; have hfz21_1 := blk_frozen BK124.out 1; have hfz21_2 := blk_frozen BK124.out 2; have hnb22 := NB125_0.out; have hnc22 := NB0_125.out; have hcz23_0 : w17.cell? ⟨gb125, 0, none⟩ = some (.int .i64 0) := (blk_cell BK125.out 0).trans rfl; have hcz23_1 : w17.cell? ⟨gb125, 1, none⟩ = some (.int .i64 0) := (blk_cell BK125.out 1).trans rfl; have hcz23_2 : w17.cell? ⟨gb125, 2, none⟩ = some (.slice none 0 0) := (blk_cell BK125.out 2).trans rfl; have hfz23_0 := blk_frozen BK125.out 0; have hfz23_1 := blk_frozen BK125.out 1; have hfz23_2 := blk_frozen BK125.out 2))
    refine bodyPost_ret (results_cell_row rfl _ _ gb125 26 #[.int .i64 a1_0, .int .i64 a1_1, .slice Ao15 l1_2.length co15] (0, 0) _ rfl (by (with_reducible repeat (first | refine blk_drewN ?_ _ | refine blk_drew ?_ | refine blk_alloc ?_ _)); refine blk_put (cs := #[.int .i64 a1_0, .int .i64 a1_1, .slice none 0 0]) ?_ 2 _ rfl; (with_reducible repeat (first | refine blk_drewN ?_ _ | refine blk_drew ?_ | refine blk_alloc ?_ _)); refine blk_put (cs := #[.int .i64 a1_0, .int .i64 0, .slice none 0 0]) ?_ 1 _ rfl; (with_reducible repeat (first | refine blk_drewN ?_ _ | refine blk_drew ?_ | refine blk_alloc ?_ _)); refine blk_put (cs := #[.int .i64 0, .int .i64 0, .slice none 0 0]) ?_ 0 _ rfl; (with_reducible repeat (first | refine blk_drewN ?_ _ | refine blk_drew ?_ | refine blk_alloc ?_ _)); refine blk_far ?_ NB125_0.out _; (with_reducible repeat (first | refine blk_drewN ?_ _ | refine blk_drew ?_ | refine blk_alloc ?_ _)); exact BK125.out) Try.underlying26 rfl (by kernel_rfl)) rfl ?_
    exact ⟨_, by first | rfl | (simp [errW_none, errW_some] <;> rfl) | (simp [*, errW_none, errW_some] <;> rfl), by (with_reducible repeat (first | apply Kd.R_alloc | apply Kd.R_drewN | apply Kd.R_drew)); exact Kd.R_mono (Kd.R_far (p := ⟨gb125, 2, none⟩) (Kd.R_far (p := ⟨gb125, 1, none⟩) (Kd.R_far (p := ⟨gb125, 0, none⟩) (Kd.R_far (p := ⟨g, 0, none⟩) (Kd.R_types (IsS77.apart HI0.out HO1_2.out (by decide)) BK125.out (by decide)) (fun _ hk => hk.1.2) (.bool a2)) (fun _ hk => hk.2) (.int .i64 a1_0)) (fun _ hk => hk.2) (.int .i64 a1_1)) (fun _ hk => hk.2) (.slice Ao15 l1_2.length co15)) (fun _ hk => hk.1.1), by repeat (first | (with_reducible first | exact HI0.out | apply IsS77.alloc | apply IsS77.drewN | apply IsS77.drew | apply IsS77.set_0 | refine IsS77.far ?_ NB0_124.out _ | refine IsS77.far ?_ NB0_125.out _) | exact HI0.out), by repeat (first | (with_reducible first | exact HB.out | apply below_alloc | apply pw_below_drewN | apply below_drew1 | refine below_set ?_ (IsS77.ge HI0.out) | refine below_set ?_ GE124.out | refine below_set ?_ GE125.out) | exact HB.out), by repeat (first | (with_reducible first | exact HK.out | apply Kept.alloc | apply Kept.drewN | apply Kept.drew | refine Kept.setCell ?_ (.inl (.inr rfl)) _ | refine Kept.setCell ?_ (.inr GW124.out) _ | refine Kept.setCell ?_ (.inr GW125.out) _) | exact HK.out)⟩

-- function 46: in PQ (KJ)

/-! ### kalman_work_between: function 48 -/
def kalman_work_between.f (s0_0 : Bool) (a1_0 : Int) (a1_1 : Int) (l1_2 : List Int) (a2_0 : Int) (a2_1 : Int) (l2_2 : List Int) : Option (Int × Int × List Int × Bool) := (mat_Mul.f a1_0 a1_1 l1_2 a2_0 a2_1 l2_2).bind fun bt129 => ((kalman_work_mat.f s0_0 bt129.1 bt129.2.1 bt129.2.2.1 bt129.2.2.2.1 bt129.2.2.2.2).bind fun bt136 => ((mat_Trans.f a1_0 a1_1 l1_2).bind fun bt142 => ((mat_Mul.f bt136.1 bt136.2.1 bt136.2.2.1 bt142.1 bt142.2.1 bt142.2.2).bind fun bt147 => ((kalman_work_mat.f bt136.2.2.2 bt147.1 bt147.2.1 bt147.2.2.1 bt147.2.2.2.1 bt147.2.2.2.2).bind fun bt154 => (some (bt154.1, bt154.2.1, bt154.2.2.1, bt154.2.2.2))))))
def kalman_work_between.T1 : Bool × List (List Nat × List Nat) := (true, [([], []), ([], []), ([], []), ([], []), ([2, 3], [2, 3]), ([4], [4]), ([4], [4]), ([4], [4]), ([1, 5, 6, 7, 4], [1, 5, 6, 7]), ([], []), ([9, 8], [9]), ([8, 10, 10], [8, 10]), ([11], [11]), ([11], [11]), ([11], [11]), ([0, 12, 13, 14, 11], [0, 12, 13, 14]), ([15, 15, 0, 1, 2, 3, 4, 5, 6, 7, 8, 9, 10, 11, 12, 13, 14, 15], [15])])
def kalman_work_between.B1 : List Nat := [0, 0, 0, 0, 12, 28, 28, 28, 254, 0, 1022, 2046, 4094, 4094, 4094, 32767, 65535]
theorem kalman_work_between.tab1 : rtab .any (opsOf Try.f48 1) = kalman_work_between.T1 := by kernel_rfl
theorem kalman_work_between.bits1 : waitsOk kalman_work_between.T1.2 kalman_work_between.B1 = true := by kernel_rfl
set_option maxHeartbeats 8000000 in
set_option maxRecDepth 100000 in
theorem kalman_work_between.calls (g : Nat) (s0_0 : Bool) (a1_0 : Int) (a1_1 : Int) (A1_2 : Option Addr) (c1_2 : Nat) (l1_2 : List Int) (a2_0 : Int) (a2_1 : Int) (A2_2 : Option Addr) (c2_2 : Nat) (l2_2 : List Int) (r1 : Int) (r2 : Int) (r3 : List Int) (r4 : Bool) (w0 w : World) (hI : IsS77 w0 w g s0_0) (hB : Below w0.heap.size w0 w) (hr1_2 : Kd.C (Kd.int .i64) w A1_2 l1_2.length l1_2) (hc1_2 : l1_2.length ≤ c1_2) (hf1_2 : ∀ ad, A1_2 = some ad → 0 < l1_2.length → ad.block ≠ g) (hr2_2 : Kd.C (Kd.int .i64) w A2_2 l2_2.length l2_2) (hc2_2 : l2_2.length ≤ c2_2) (hf2_2 : ∀ ad, A2_2 = some ad → 0 < l2_2.length → ad.block ≠ g) (h : kalman_work_between.f s0_0 a1_0 a1_1 l1_2 a2_0 a2_1 l2_2 = some (r1, r2, r3, r4)) :
    Calls Try.prog 48 #[.pointer (some ⟨g, 0, none⟩), .agg #[.int .i64 a1_0, .int .i64 a1_1, .slice A1_2 l1_2.length c1_2], .agg #[.int .i64 a2_0, .int .i64 a2_1, .slice A2_2 l2_2.length c2_2]] w fun e w' => ∃ v2_ : Value, e = .returned (.agg #[.int .i64 r1, .int .i64 r2, v2_]) ∧ Kd.R (Kd.int .i64) 22 w' w.heap.size (fun _ => True) v2_ r3 ∧ IsS77 w0 w' g r4 ∧ Below w0.heap.size w0 w' ∧ KeepBut w w' g none := by
  have hu26 := Try.underlying26
  have HR1_2 := Aside0.mk hr1_2
  have HC1_2 := Aside0.mk hc1_2
  clear hr1_2 hc1_2
  have HR2_2 := Aside0.mk hr2_2
  have HC2_2 := Aside0.mk hc2_2
  clear hr2_2 hc2_2
  have HI0 := Aside0.mk hI
  have HK := Aside0.mk (KeepBut.refl w g none)
  have HL := Aside0.mk hB.size
  clear hI
  have HW0 := Aside0.mk hB.size
  have HB := Aside0.mk hB
  clear hB
  have H : ((mat_Mul.f a1_0 a1_1 l1_2 a2_0 a2_1 l2_2).bind fun bt129 => ((kalman_work_mat.f s0_0 bt129.1 bt129.2.1 bt129.2.2.1 bt129.2.2.2.1 bt129.2.2.2.2).bind fun bt136 => ((mat_Trans.f a1_0 a1_1 l1_2).bind fun bt142 => ((mat_Mul.f bt136.1 bt136.2.1 bt136.2.2.1 bt142.1 bt142.2.1 bt142.2.2).bind fun bt147 => ((kalman_work_mat.f bt136.2.2.2 bt147.1 bt147.2.1 bt147.2.2.1 bt147.2.2.2.1 bt147.2.2.2.2).bind fun bt154 => (some (bt154.1, bt154.2.1, bt154.2.2.1, bt154.2.2.2))))))) = some (r1, r2, r3, r4) := h
  clear h
  replace H := Option.bind_eq_some_iff.mp H
  obtain ⟨⟨t129, t130, t131, t134, t135⟩, A40, H⟩ := H
  replace H : ((kalman_work_mat.f s0_0 t129 t130 t131 t134 t135).bind fun bt136 => ((mat_Trans.f a1_0 a1_1 l1_2).bind fun bt142 => ((mat_Mul.f bt136.1 bt136.2.1 bt136.2.2.1 bt142.1 bt142.2.1 bt142.2.2).bind fun bt147 => ((kalman_work_mat.f bt136.2.2.2 bt147.1 bt147.2.1 bt147.2.2.1 bt147.2.2.2.1 bt147.2.2.2.2).bind fun bt154 => (some (bt154.1, bt154.2.1, bt154.2.2.1, bt154.2.2.2)))))) = some (r1, r2, r3, r4) := H
  have A4 := Aside0.mk A40
  clear A40
  replace H := Option.bind_eq_some_iff.mp H
  obtain ⟨⟨t136, t137, t138, t141⟩, A50, H⟩ := H
  replace H : ((mat_Trans.f a1_0 a1_1 l1_2).bind fun bt142 => ((mat_Mul.f t136 t137 t138 bt142.1 bt142.2.1 bt142.2.2).bind fun bt147 => ((kalman_work_mat.f t141 bt147.1 bt147.2.1 bt147.2.2.1 bt147.2.2.2.1 bt147.2.2.2.2).bind fun bt154 => (some (bt154.1, bt154.2.1, bt154.2.2.1, bt154.2.2.2))))) = some (r1, r2, r3, r4) := H
  have A5 := Aside0.mk A50
  clear A50
  replace H := Option.bind_eq_some_iff.mp H
  obtain ⟨⟨t142, t143, t144⟩, A60, H⟩ := H
  replace H : ((mat_Mul.f t136 t137 t138 t142 t143 t144).bind fun bt147 => ((kalman_work_mat.f t141 bt147.1 bt147.2.1 bt147.2.2.1 bt147.2.2.2.1 bt147.2.2.2.2).bind fun bt154 => (some (bt154.1, bt154.2.1, bt154.2.2.1, bt154.2.2.2)))) = some (r1, r2, r3, r4) := H
  have A6 := Aside0.mk A60
  clear A60
  replace H := Option.bind_eq_some_iff.mp H
  obtain ⟨⟨t147, t148, t149, t152, t153⟩, A70, H⟩ := H
  replace H : ((kalman_work_mat.f t141 t147 t148 t149 t152 t153).bind fun bt154 => (some (bt154.1, bt154.2.1, bt154.2.2.1, bt154.2.2.2))) = some (r1, r2, r3, r4) := H
  have A7 := Aside0.mk A70
  clear A70
  replace H := Option.bind_eq_some_iff.mp H
  obtain ⟨⟨t154, t155, t156, t159⟩, A80, H⟩ := H
  replace H : (some (t154, t155, t156, t159)) = some (r1, r2, r3, r4) := H
  have A8 := Aside0.mk A80
  clear A80
  simp only [Option.some.injEq, Prod.mk.injEq] at H
  obtain ⟨rfl, rfl, rfl, rfl⟩ := H
  go_enter Try.func48, Try.ntmps48
  try go_wp2_with (first | ((with_reducible refine gate_dst (N := 4) rfl ?_); refine box_event ?hg (N := 4) ?hd (cs := #[.int .i64 a1_0, .int .i64 a1_1, .slice A1_2 l1_2.length c1_2]) (t := 26) ?hr ?_; (case hd => rfl); (case hg => rfl); (case hr => first | (go_simp; done) | (go_simp; rfl)); intro gb126 hg w9 hbox hb; have n0_ := Aside0.mk (IsS77.below (by repeat (first | (with_reducible first | exact HI0.out | apply IsS77.alloc | apply IsS77.drewN | apply IsS77.drew | apply IsS77.set_0) | exact HI0.out)) hb); have n1_ := Aside0.mk (KeepBut.trans (by repeat (first | (with_reducible first | exact HK.out | apply KeepBut.set_ | apply keep_drewN | apply keep_drew | apply keep_alloc) | exact HK.out)) (KeepBut.of_below hb g none) (.inl rfl)); have n2_ := Aside0.mk (below_step (by repeat (first | (with_reducible first | exact HB.out | apply below_alloc | apply pw_below_drewN | apply below_drew1 | refine below_set ?_ (IsS77.ge HI0.out)) | exact HB.out)) hb); have n3_ := Aside0.mk (hbox); have n4_ := Aside0.mk ((by rw [hg]; exact (keep_size (w := w) (g := g) (row := none) (by repeat (first | (with_reducible first | exact HK.out | apply KeepBut.set_ | apply keep_drewN | apply keep_drew | apply keep_alloc) | exact HK.out))) : w.heap.size ≤ gb126)); have n5_ := Aside0.mk ((Nat.le_trans HW0.out (by rw [hg]; exact (keep_size (w := w) (g := g) (row := none) (by repeat (first | (with_reducible first | exact HK.out | apply KeepBut.set_ | apply keep_drewN | apply keep_drew | apply keep_alloc) | exact HK.out))) : w.heap.size ≤ gb126) : w0.heap.size ≤ gb126)); have n6_ := Aside0.mk ((by rw [hg]; exact Nat.ne_of_lt (IsS77.lt (show IsS77 w0 _ g s0_0 from by repeat (first | (with_reducible first | exact HI0.out | apply IsS77.alloc | apply IsS77.drewN | apply IsS77.drew | apply IsS77.set_0) | exact HI0.out))) : g ≠ gb126)); have n7_ := Aside0.mk ((by rw [hg]; exact Nat.ne_of_gt (IsS77.lt (show IsS77 w0 _ g s0_0 from by repeat (first | (with_reducible first | exact HI0.out | apply IsS77.alloc | apply IsS77.drewN | apply IsS77.drew | apply IsS77.set_0) | exact HI0.out))) : gb126 ≠ g)); clear HI0; clear HK; clear HB; have HI0 := n0_; have HK := n1_; have HB := n2_; have BK126 := n3_; have GW126 := n4_; have GE126 := n5_; have NB0_126 := n6_; have NB126_0 := n7_; clear n0_ n1_ n2_ n3_ n4_ n5_ n6_ n7_; clear hb hbox hg) | ((with_reducible refine gate_dst (N := 5) rfl ?_); refine box_event ?hg (N := 5) ?hd (cs := #[.int .i64 a2_0, .int .i64 a2_1, .slice A2_2 l2_2.length c2_2]) (t := 26) ?hr ?_; (case hd => rfl); (case hg => rfl); (case hr => first | (go_simp; done) | (go_simp; rfl)); intro gb127 hg w10 hbox hb; have n0_ := Aside0.mk (IsS77.below (by repeat (first | (with_reducible first | exact HI0.out | apply IsS77.alloc | apply IsS77.drewN | apply IsS77.drew | apply IsS77.set_0 | refine IsS77.far ?_ NB0_126.out _) | exact HI0.out)) hb); have n1_ := Aside0.mk (blk_below (g := gb126) (o := .cells #[.int .i64 a1_0, .int .i64 a1_1, .slice A1_2 l1_2.length c1_2] 26 (0, 0)) (by (with_reducible repeat (first | refine blk_drewN ?_ _ | refine blk_drew ?_ | refine blk_alloc ?_ _)); exact BK126.out) hb); have n2_ := Aside0.mk (KeepBut.trans (by repeat (first | (with_reducible first | exact HK.out | apply KeepBut.set_ | apply keep_drewN | apply keep_drew | apply keep_alloc | refine keep_far ?_ GW126.out _) | exact HK.out)) (KeepBut.of_below hb g none) (.inl rfl)); have n3_ := Aside0.mk (below_step (by repeat (first | (with_reducible first | exact HB.out | apply below_alloc | apply pw_below_drewN | apply below_drew1 | refine below_set ?_ (IsS77.ge HI0.out) | refine below_set ?_ GE126.out) | exact HB.out)) hb); have n4_ := Aside0.mk (hbox); have n5_ := Aside0.mk ((by rw [hg]; exact (keep_size (w := w) (g := g) (row := none) (by repeat (first | (with_reducible first | exact HK.out | apply KeepBut.set_ | apply keep_drewN | apply keep_drew | apply keep_alloc | refine keep_far ?_ GW126.out _) | exact HK.out))) : w.heap.size ≤ gb127)); have n6_ := Aside0.mk ((Nat.le_trans HW0.out (by rw [hg]; exact (keep_size (w := w) (g := g) (row := none) (by repeat (first | (with_reducible first | exact HK.out | apply KeepBut.set_ | apply keep_drewN | apply keep_drew | apply keep_alloc | refine keep_far ?_ GW126.out _) | exact HK.out))) : w.heap.size ≤ gb127) : w0.heap.size ≤ gb127)); have n7_ := Aside0.mk ((by rw [hg]; exact Nat.ne_of_lt (blk_lt (g := gb126) (o := .cells #[.int .i64 a1_0, .int .i64 a1_1, .slice A1_2 l1_2.length c1_2] 26 (0, 0)) (by (with_reducible repeat (first | refine blk_drewN ?_ _ | refine blk_drew ?_ | refine blk_alloc ?_ _)); exact BK126.out)) : gb126 ≠ gb127)); have n8_ := Aside0.mk ((by rw [hg]; exact Nat.ne_of_gt (blk_lt (g := gb126) (o := .cells #[.int .i64 a1_0, .int .i64 a1_1, .slice A1_2 l1_2.length c1_2] 26 (0, 0)) (by (with_reducible repeat (first | refine blk_drewN ?_ _ | refine blk_drew ?_ | refine blk_alloc ?_ _)); exact BK126.out)) : gb127 ≠ gb126)); have n9_ := Aside0.mk ((by rw [hg]; exact Nat.ne_of_lt (IsS77.lt (show IsS77 w0 _ g s0_0 from by repeat (first | (with_reducible first | exact HI0.out | apply IsS77.alloc | apply IsS77.drewN | apply IsS77.drew | apply IsS77.set_0 | refine IsS77.far ?_ NB0_126.out _) | exact HI0.out))) : g ≠ gb127)); have n10_ := Aside0.mk ((by rw [hg]; exact Nat.ne_of_gt (IsS77.lt (show IsS77 w0 _ g s0_0 from by repeat (first | (with_reducible first | exact HI0.out | apply IsS77.alloc | apply IsS77.drewN | apply IsS77.drew | apply IsS77.set_0 | refine IsS77.far ?_ NB0_126.out _) | exact HI0.out))) : gb127 ≠ g)); clear HI0; clear BK126; clear HK; clear HB; have HI0 := n0_; have BK126 := n1_; have HK := n2_; have HB := n3_; have BK127 := n4_; have GW127 := n5_; have GE127 := n6_; have NB126_127 := n7_; have NB127_126 := n8_; have NB0_127 := n9_; have NB127_0 := n10_; clear n0_ n1_ n2_ n3_ n4_ n5_ n6_ n7_ n8_ n9_ n10_; clear hb hbox hg) | ((with_reducible refine gate_dst (N := 6) rfl ?_); refine box_event ?hg (N := 6) ?hd (cs := #[.int .i64 0, .int .i64 0, .slice none 0 0]) (t := 26) ?hr ?_; (case hd => rfl); (case hg => rfl); (case hr => first | (go_simp; done) | (go_simp; rfl)); intro gb128 hg w11 hbox hb; have n0_ := Aside0.mk (IsS77.below (by repeat (first | (with_reducible first | exact HI0.out | apply IsS77.alloc | apply IsS77.drewN | apply IsS77.drew | apply IsS77.set_0 | refine IsS77.far ?_ NB0_126.out _ | refine IsS77.far ?_ NB0_127.out _) | exact HI0.out)) hb); have n1_ := Aside0.mk (blk_below (g := gb126) (o := .cells #[.int .i64 a1_0, .int .i64 a1_1, .slice A1_2 l1_2.length c1_2] 26 (0, 0)) (by (with_reducible repeat (first | refine blk_drewN ?_ _ | refine blk_drew ?_ | refine blk_alloc ?_ _)); exact BK126.out) hb); have n2_ := Aside0.mk (blk_below (g := gb127) (o := .cells #[.int .i64 a2_0, .int .i64 a2_1, .slice A2_2 l2_2.length c2_2] 26 (0, 0)) (by (with_reducible repeat (first | refine blk_drewN ?_ _ | refine blk_drew ?_ | refine blk_alloc ?_ _)); exact BK127.out) hb); have n3_ := Aside0.mk (KeepBut.trans (by repeat (first | (with_reducible first | exact HK.out | apply KeepBut.set_ | apply keep_drewN | apply keep_drew | apply keep_alloc | refine keep_far ?_ GW126.out _ | refine keep_far ?_ GW127.out _) | exact HK.out)) (KeepBut.of_below hb g none) (.inl rfl)); have n4_ := Aside0.mk (below_step (by repeat (first | (with_reducible first | exact HB.out | apply below_alloc | apply pw_below_drewN | apply below_drew1 | refine below_set ?_ (IsS77.ge HI0.out) | refine below_set ?_ GE126.out | refine below_set ?_ GE127.out) | exact HB.out)) hb); have n5_ := Aside0.mk (hbox); have n6_ := Aside0.mk ((by rw [hg]; exact (keep_size (w := w) (g := g) (row := none) (by repeat (first | (with_reducible first | exact HK.out | apply KeepBut.set_ | apply keep_drewN | apply keep_drew | apply keep_alloc | refine keep_far ?_ GW126.out _ | refine keep_far ?_ GW127.out _) | exact HK.out))) : w.heap.size ≤ gb128)); have n7_ := Aside0.mk ((Nat.le_trans HW0.out (by rw [hg]; exact (keep_size (w := w) (g := g) (row := none) (by repeat (first | (with_reducible first | exact HK.out | apply KeepBut.set_ | apply keep_drewN | apply keep_drew | apply keep_alloc | refine keep_far ?_ GW126.out _ | refine keep_far ?_ GW127.out _) | exact HK.out))) : w.heap.size ≤ gb128) : w0.heap.size ≤ gb128)); have n8_ := Aside0.mk ((by rw [hg]; exact Nat.ne_of_lt (blk_lt (g := gb126) (o := .cells #[.int .i64 a1_0, .int .i64 a1_1, .slice A1_2 l1_2.length c1_2] 26 (0, 0)) (by (with_reducible repeat (first | refine blk_drewN ?_ _ | refine blk_drew ?_ | refine blk_alloc ?_ _)); exact BK126.out)) : gb126 ≠ gb128)); have n9_ := Aside0.mk ((by rw [hg]; exact Nat.ne_of_gt (blk_lt (g := gb126) (o := .cells #[.int .i64 a1_0, .int .i64 a1_1, .slice A1_2 l1_2.length c1_2] 26 (0, 0)) (by (with_reducible repeat (first | refine blk_drewN ?_ _ | refine blk_drew ?_ | refine blk_alloc ?_ _)); exact BK126.out)) : gb128 ≠ gb126)); have n10_ := Aside0.mk ((by rw [hg]; exact Nat.ne_of_lt (blk_lt (g := gb127) (o := .cells #[.int .i64 a2_0, .int .i64 a2_1, .slice A2_2 l2_2.length c2_2] 26 (0, 0)) (by (with_reducible repeat (first | refine blk_drewN ?_ _ | refine blk_drew ?_ | refine blk_alloc ?_ _)); exact BK127.out)) : gb127 ≠ gb128)); have n11_ := Aside0.mk ((by rw [hg]; exact Nat.ne_of_gt (blk_lt (g := gb127) (o := .cells #[.int .i64 a2_0, .int .i64 a2_1, .slice A2_2 l2_2.length c2_2] 26 (0, 0)) (by (with_reducible repeat (first | refine blk_drewN ?_ _ | refine blk_drew ?_ | refine blk_alloc ?_ _)); exact BK127.out)) : gb128 ≠ gb127)); have n12_ := Aside0.mk ((by rw [hg]; exact Nat.ne_of_lt (IsS77.lt (show IsS77 w0 _ g s0_0 from by repeat (first | (with_reducible first | exact HI0.out | apply IsS77.alloc | apply IsS77.drewN | apply IsS77.drew | apply IsS77.set_0 | refine IsS77.far ?_ NB0_126.out _ | refine IsS77.far ?_ NB0_127.out _) | exact HI0.out))) : g ≠ gb128)); have n13_ := Aside0.mk ((by rw [hg]; exact Nat.ne_of_gt (IsS77.lt (show IsS77 w0 _ g s0_0 from by repeat (first | (with_reducible first | exact HI0.out | apply IsS77.alloc | apply IsS77.drewN | apply IsS77.drew | apply IsS77.set_0 | refine IsS77.far ?_ NB0_126.out _ | refine IsS77.far ?_ NB0_127.out _) | exact HI0.out))) : gb128 ≠ g)); clear HI0; clear BK126; clear BK127; clear HK; clear HB; have HI0 := n0_; have BK126 := n1_; have BK127 := n2_; have HK := n3_; have HB := n4_; have BK128 := n5_; have GW128 := n6_; have GE128 := n7_; have NB126_128 := n8_; have NB128_126 := n9_; have NB127_128 := n10_; have NB128_127 := n11_; have NB0_128 := n12_; have NB128_0 := n13_; clear n0_ n1_ n2_ n3_ n4_ n5_ n6_ n7_ n8_ n9_ n10_ n11_ n12_ n13_; clear hb hbox hg))
  have n0_ := Aside0.mk (blk_drew BK126.out)
  have n1_ := Aside0.mk (blk_drew BK127.out)
  have n2_ := Aside0.mk (blk_drew BK128.out)
  have n3_ := Aside0.mk (IsS77.drew HI0.out)
  have n4_ := Aside0.mk (keep_drew HK.out)
  have n5_ := Aside0.mk (below_drew1 HB.out)
  clear BK126
  clear BK127
  clear BK128
  clear HI0
  clear HK
  clear HB
  have BK126 := n0_
  have BK127 := n1_
  have BK128 := n2_
  have HI0 := n3_
  have HK := n4_
  have HB := n5_
  clear n0_ n1_ n2_ n3_ n4_ n5_
  refine start_ (n := 17) (S := fun w' => w'.cell? ⟨gb126, 0, none⟩ = some (.int .i64 a1_0) ∧ w'.cell? ⟨gb126, 1, none⟩ = some (.int .i64 a1_1) ∧ w'.cell? ⟨gb126, 2, none⟩ = some (.slice A1_2 l1_2.length c1_2) ∧ w'.cell? ⟨gb127, 0, none⟩ = some (.int .i64 a2_0) ∧ w'.cell? ⟨gb127, 1, none⟩ = some (.int .i64 a2_1) ∧ w'.cell? ⟨gb127, 2, none⟩ = some (.slice A2_2 l2_2.length c2_2)) (ds := []) #[false, false, false, false, false, false, false, false, false, false, false, false, false, false, false, false, false] (by kernel_rfl) rfl rfl ⟨(blk_cell BK126.out 0).trans rfl, (blk_cell BK126.out 1).trans rfl, (blk_cell BK126.out 2).trans rfl, (blk_cell BK127.out 0).trans rfl, (blk_cell BK127.out 1).trans rfl, (blk_cell BK127.out 2).trans rfl⟩ (fun hHeld => ?_); refine with_tabW kalman_work_between.tab1 kalman_work_between.bits1 (fun HT_ HW_ => ?_)
  generalize w11.drew = w12 at BK126 BK127 BK128 HI0 HK HB hHeld ⊢
  refine pure_ (i := 0) (N := some 7) (v := ?_) (a' := ?_) #[true, false, false, false, false, false, false, false, false, false, false, false, false, false, false, false, false] rfl rfl (any_of HT_.out (by kernel_rfl)) (fun _ _ _ h => h) (Or.inl ⟨by rfl, ?_⟩) ?_ ?_
  rotate_left
  · intro w'
    go_simp
    with_reducible rfl
  rotate_left
  · simp only [Act.put, List.setIfInBounds_toArray, List.set_cons_zero, List.set_cons_succ, i64_w, i32_w]
    rfl
  refine pure_ (i := 1) (N := some 8) (v := ?_) (a' := ?_) #[true, true, false, false, false, false, false, false, false, false, false, false, false, false, false, false, false] rfl rfl (any_of HT_.out (by kernel_rfl)) (fun _ _ _ h => h) (Or.inl ⟨by rfl, ?_⟩) ?_ ?_
  rotate_left
  · intro w'
    go_simp
    with_reducible rfl
  rotate_left
  · simp only [Act.put, List.setIfInBounds_toArray, List.set_cons_zero, List.set_cons_succ, i64_w, i32_w]
    rfl
  refine take_ (i := 2) (N := some 9) (v := ?_) (a' := ?_) #[true, true, true, false, false, false, false, false, false, false, false, false, false, false, false, false, false] rfl rfl (take_ofW HT_.out HW_.out (by kernel_rfl)) (fun _ _ _ h => h) (Or.inl ⟨by rfl, ?_⟩) hHeld ?_ ?_
  rotate_left
  · rintro w' ⟨s0, s1, s2, s3, s4, s5⟩
    go_simp
    with_reducible rfl
  rotate_left
  · simp only [Act.put, List.setIfInBounds_toArray, List.set_cons_zero, List.set_cons_succ, i64_w, i32_w]
    rfl
  refine take_ (i := 3) (N := some 10) (v := ?_) (a' := ?_) #[true, true, true, true, false, false, false, false, false, false, false, false, false, false, false, false, false] rfl rfl (take_ofW HT_.out HW_.out (by kernel_rfl)) (fun _ _ _ h => h) (Or.inl ⟨by rfl, ?_⟩) hHeld ?_ ?_
  rotate_left
  · rintro w' ⟨s0, s1, s2, s3, s4, s5⟩
    go_simp
    with_reducible rfl
  rotate_left
  · simp only [Act.put, List.setIfInBounds_toArray, List.set_cons_zero, List.set_cons_succ, i64_w, i32_w]
    rfl
  refine take_ (i := 9) (N := some 16) (v := ?_) (a' := ?_) #[true, true, true, true, false, false, false, false, false, true, false, false, false, false, false, false, false] rfl rfl (take_ofW HT_.out HW_.out (by kernel_rfl)) (fun _ _ _ h => h) (Or.inl ⟨by rfl, ?_⟩) hHeld ?_ ?_
  rotate_left
  · rintro w' ⟨s0, s1, s2, s3, s4, s5⟩
    go_simp
    with_reducible rfl
  rotate_left
  · simp only [Act.put, List.setIfInBounds_toArray, List.set_cons_zero, List.set_cons_succ, i64_w, i32_w]
    rfl
  refine one_ (i := 4) (N := some 11) #[true, true, true, true, true, false, false, false, false, true, false, false, false, false, false, false, false] rfl rfl (one_of HT_.out (by kernel_rfl)) (by decide) (fun K hK => ?_)
  refine goes_ Try.func46 (by kernel_rfl) rfl #[.agg #[.int .i64 a1_0, .int .i64 a1_1, .slice A1_2 l1_2.length c1_2], .agg #[.int .i64 a2_0, .int .i64 a2_1, .slice A2_2 l2_2.length c2_2]] (by rfl) rfl rfl (by (try simp only [List.map_toArray, List.map_cons, List.map_nil]); first | done | rfl | (simp only [List.length_drop, List.length_take]; rfl)) ?_
  with_reducible refine (mat_Mul.calls a1_0 a1_1 _ _ l1_2 a2_0 a2_1 _ _ l2_2 t129 t130 t131 t134 t135 _ ?side1 ?side2 ?side3 ?side4 A4.out).mono ?_
  (case side1 => exact Kd.C_keep 0 HR1_2.out (by repeat (first | (with_reducible first | exact HK.out | apply KeepBut.set_ | apply keep_drewN | apply keep_drew | apply keep_alloc | refine keep_far ?_ GW126.out _ | refine keep_far ?_ GW127.out _ | refine keep_far ?_ GW128.out _) | exact HK.out)) hf1_2)
  (case side2 => exact HC1_2.out)
  (case side3 => exact Kd.C_keep 0 HR2_2.out (by repeat (first | (with_reducible first | exact HK.out | apply KeepBut.set_ | apply keep_drewN | apply keep_drew | apply keep_alloc | refine keep_far ?_ GW126.out _ | refine keep_far ?_ GW127.out _ | refine keep_far ?_ GW128.out _) | exact HK.out)) hf2_2)
  (case side4 => exact HC2_2.out)
  rintro e w13 ⟨v132, rfl, ho0, hb⟩
  refine ⟨_, rfl, ?_⟩
  have n0_ := Aside0.mk (Kd.R_lower ho0 (keep_size (w := w) (g := g) (row := none) (by repeat (first | (with_reducible first | exact HK.out | apply KeepBut.set_ | apply keep_drewN | apply keep_drew | apply keep_alloc | refine keep_far ?_ GW126.out _ | refine keep_far ?_ GW127.out _ | refine keep_far ?_ GW128.out _) | exact HK.out))))
  have n1_ := Aside0.mk (IsS77.below (by repeat (first | (with_reducible first | exact HI0.out | apply IsS77.alloc | apply IsS77.drewN | apply IsS77.drew | apply IsS77.set_0 | refine IsS77.far ?_ NB0_126.out _ | refine IsS77.far ?_ NB0_127.out _ | refine IsS77.far ?_ NB0_128.out _) | exact HI0.out)) hb)
  have n2_ := Aside0.mk (blk_below (g := gb126) (o := .cells #[.int .i64 a1_0, .int .i64 a1_1, .slice A1_2 l1_2.length c1_2] 26 (0, 0)) (by (with_reducible repeat (first | refine blk_drewN ?_ _ | refine blk_drew ?_ | refine blk_alloc ?_ _)); exact BK126.out) hb)
  have n3_ := Aside0.mk (blk_below (g := gb127) (o := .cells #[.int .i64 a2_0, .int .i64 a2_1, .slice A2_2 l2_2.length c2_2] 26 (0, 0)) (by (with_reducible repeat (first | refine blk_drewN ?_ _ | refine blk_drew ?_ | refine blk_alloc ?_ _)); exact BK127.out) hb)
  have n4_ := Aside0.mk (blk_below (g := gb128) (o := .cells #[.int .i64 0, .int .i64 0, .slice none 0 0] 26 (0, 0)) (by (with_reducible repeat (first | refine blk_drewN ?_ _ | refine blk_drew ?_ | refine blk_alloc ?_ _)); exact BK128.out) hb)
  have n5_ := Aside0.mk (KeepBut.trans (by repeat (first | (with_reducible first | exact HK.out | apply KeepBut.set_ | apply keep_drewN | apply keep_drew | apply keep_alloc | refine keep_far ?_ GW126.out _ | refine keep_far ?_ GW127.out _ | refine keep_far ?_ GW128.out _) | exact HK.out)) (KeepBut.of_below hb g none) (.inl rfl))
  have n6_ := Aside0.mk (below_step (by repeat (first | (with_reducible first | exact HB.out | apply below_alloc | apply pw_below_drewN | apply below_drew1 | refine below_set ?_ (IsS77.ge HI0.out) | refine below_set ?_ GE126.out | refine below_set ?_ GE127.out | refine below_set ?_ GE128.out) | exact HB.out)) hb)
  clear HI0
  clear BK126
  clear BK127
  clear BK128
  clear HK
  clear HB
  have HO133 := n0_
  have HI0 := n1_
  have BK126 := n2_
  have BK127 := n3_
  have BK128 := n4_
  have HK := n5_
  have HB := n6_
  clear n0_ n1_ n2_ n3_ n4_ n5_ n6_
  (try clear hb)
  (try clear hb2)
  (try clear hk)
  (try clear hi)
  (try clear ho0)
  obtain ⟨Ao14, co14, eo14⟩ := Kd.R_slice HO133.out
  (first | subst eo14 | (injection eo14 with f1_ f2_ f3_; have f4_ := f1_.symm; have f5_ := f3_.symm; clear f1_ f2_ f3_; subst f4_; subst f5_))
  refine hK.out _ _ ⟨(blk_cell BK126.out 0).trans rfl, (blk_cell BK126.out 1).trans rfl, (blk_cell BK126.out 2).trans rfl, (blk_cell BK127.out 0).trans rfl, (blk_cell BK127.out 1).trans rfl, (blk_cell BK127.out 2).trans rfl⟩ (fun hHeld => ?_)
  clear hK K
  refine norm_ (a' := ?_) ?_ ?_
  rotate_left
  · show Act.put _ (some 11) _ = _
    simp only [Act.put, List.setIfInBounds_toArray, List.set_cons_zero, List.set_cons_succ, i64_w, i32_w]
    rfl
  refine pure_ (i := 5) (N := some 12) (v := ?_) (a' := ?_) #[true, true, true, true, true, true, false, false, false, true, false, false, false, false, false, false, false] rfl rfl (any_of HT_.out (by kernel_rfl)) (fun _ _ _ h => h) (Or.inl ⟨by rfl, ?_⟩) ?_ ?_
  rotate_left
  · intro w'
    go_simp
    with_reducible rfl
  rotate_left
  · simp only [Act.put, List.setIfInBounds_toArray, List.set_cons_zero, List.set_cons_succ, i64_w, i32_w]
    rfl
  refine pure_ (i := 6) (N := some 13) (v := ?_) (a' := ?_) #[true, true, true, true, true, true, true, false, false, true, false, false, false, false, false, false, false] rfl rfl (any_of HT_.out (by kernel_rfl)) (fun _ _ _ h => h) (Or.inl ⟨by rfl, ?_⟩) ?_ ?_
  rotate_left
  · intro w'
    go_simp
    with_reducible rfl
  rotate_left
  · simp only [Act.put, List.setIfInBounds_toArray, List.set_cons_zero, List.set_cons_succ, i64_w, i32_w]
    rfl
  refine pure_ (i := 7) (N := some 14) (v := ?_) (a' := ?_) #[true, true, true, true, true, true, true, true, false, true, false, false, false, false, false, false, false] rfl rfl (any_of HT_.out (by kernel_rfl)) (fun _ _ _ h => h) (Or.inl ⟨by rfl, ?_⟩) ?_ ?_
  rotate_left
  · intro w'
    go_simp
    with_reducible rfl
  rotate_left
  · simp only [Act.put, List.setIfInBounds_toArray, List.set_cons_zero, List.set_cons_succ, i64_w, i32_w]
    rfl
  refine one_ (i := 8) (N := some 15) #[true, true, true, true, true, true, true, true, true, true, false, false, false, false, false, false, false] rfl rfl (one_of HT_.out (by kernel_rfl)) (by decide) (fun K hK => ?_)
  refine goes_ Try.func45 (by kernel_rfl) rfl #[.pointer (some ⟨g, 0, none⟩), .agg #[.int .i64 t129, .int .i64 t130, .slice Ao14 t131.length co14], .bool t134, .int .i64 t135] (by rfl) rfl rfl (by (try simp only [List.map_toArray, List.map_cons, List.map_nil]); first | done | rfl | (simp only [List.length_drop, List.length_take]; rfl)) ?_
  with_reducible refine (kalman_work_mat.calls g s0_0 t129 t130 (fun k_ => some k_ = (.slice Ao14 t131.length co14 : Value).ownBlock) (.slice Ao14 t131.length co14) t131 t134 t135 t136 t137 t138 t141 w0 _ ?side1 ?side2 ?side3 A5.out).mono ?_
  (case side1 => repeat (first | (with_reducible first | exact HI0.out | apply IsS77.alloc | apply IsS77.drewN | apply IsS77.drew | apply IsS77.set_0 | refine IsS77.far ?_ NB0_126.out _ | refine IsS77.far ?_ NB0_127.out _ | refine IsS77.far ?_ NB0_128.out _) | exact HI0.out))
  (case side2 => repeat (first | (with_reducible first | exact HB.out | apply below_alloc | apply pw_below_drewN | apply below_drew1 | refine below_set ?_ (IsS77.ge HI0.out) | refine below_set ?_ GE126.out | refine below_set ?_ GE127.out | refine below_set ?_ GE128.out) | exact HB.out))
  (case side3 => exact Kd.R_lower (Kd.R_tight rfl HO133.out) HL.out)
  rintro e w15 ⟨v139, rfl, ho0, hi, hb, hkp⟩
  refine ⟨_, rfl, ?_⟩
  have n0_ := Aside0.mk (hi)
  have n1_ := Aside0.mk (blk_kept (by (with_reducible repeat (first | refine blk_drewN ?_ _ | refine blk_drew ?_ | refine blk_alloc ?_ _)); exact BK126.out) hkp (fun hs_ => Or.elim hs_ (fun hs_ => (fun e_ => (Kd.R_ne HO133.out BK126.out (by decide)) e_) hs_) (fun e_ => NB126_0.out e_)))
  have n2_ := Aside0.mk (blk_kept (by (with_reducible repeat (first | refine blk_drewN ?_ _ | refine blk_drew ?_ | refine blk_alloc ?_ _)); exact BK127.out) hkp (fun hs_ => Or.elim hs_ (fun hs_ => (fun e_ => (Kd.R_ne HO133.out BK127.out (by decide)) e_) hs_) (fun e_ => NB127_0.out e_)))
  have n3_ := Aside0.mk (blk_kept (by (with_reducible repeat (first | refine blk_drewN ?_ _ | refine blk_drew ?_ | refine blk_alloc ?_ _)); exact BK128.out) hkp (fun hs_ => Or.elim hs_ (fun hs_ => (fun e_ => (Kd.R_ne HO133.out BK128.out (by decide)) e_) hs_) (fun e_ => NB128_0.out e_)))
  have n4_ := Aside0.mk (Kd.R_mono (ok' := fun k_ => True) (Kd.R_raise (d := (Kd.int .i64)) (b := w0.heap.size) (b' := w.heap.size) (fun _ _ _ _ h_ => h_) ho0 (fun k_ e_ => Or.elim (ho0.1 k_ e_) (fun hs_ => (fun e_ => Kd.R_base HO133.out k_ e_.symm) hs_) (fun hn_ => Nat.le_trans (keep_size (w := w) (g := g) (row := none) (by repeat (first | (with_reducible first | exact HK.out | apply KeepBut.set_ | apply keep_drewN | apply keep_drew | apply keep_alloc | refine keep_far ?_ GW126.out _ | refine keep_far ?_ GW127.out _ | refine keep_far ?_ GW128.out _) | exact HK.out))) hn_))) (fun k_ hk_ => trivial))
  have n5_ := Aside0.mk (Kept.keepG (by repeat (first | (with_reducible first | exact HK.out | apply KeepBut.set_ | apply keep_drewN | apply keep_drew | apply keep_alloc | refine keep_far ?_ GW126.out _ | refine keep_far ?_ GW127.out _ | refine keep_far ?_ GW128.out _) | exact HK.out)) hkp (fun k_ hs_ => Or.elim hs_ (fun hs_ => (fun e_ => .inr (Kd.R_base HO133.out k_ e_.symm)) hs_) (fun e_ => .inl e_)))
  have n6_ := Aside0.mk (hb)
  clear HI0
  clear BK126
  clear BK127
  clear BK128
  clear HK
  clear HB
  clear HO133
  have HI0 := n0_
  have BK126 := n1_
  have BK127 := n2_
  have BK128 := n3_
  have HO140 := n4_
  have HK := n5_
  have HB := n6_
  clear n0_ n1_ n2_ n3_ n4_ n5_ n6_
  (try clear hb)
  (try clear hkp)
  (try clear ho0)
  refine hK.out _ _ ⟨(blk_cell BK126.out 0).trans rfl, (blk_cell BK126.out 1).trans rfl, (blk_cell BK126.out 2).trans rfl, (blk_cell BK127.out 0).trans rfl, (blk_cell BK127.out 1).trans rfl, (blk_cell BK127.out 2).trans rfl⟩ (fun hHeld => ?_)
  clear hK K
  refine norm_ (a' := ?_) ?_ ?_
  rotate_left
  · show Act.put _ (some 15) _ = _
    simp only [Act.put, List.setIfInBounds_toArray, List.set_cons_zero, List.set_cons_succ, i64_w, i32_w]
    rfl
  refine one_ (i := 10) (N := some 17) #[true, true, true, true, true, true, true, true, true, true, true, false, false, false, false, false, false] rfl rfl (one_of HT_.out (by kernel_rfl)) (by decide) (fun K hK => ?_)
  refine goes_ Try.func41 (by kernel_rfl) rfl #[.agg #[.int .i64 a1_0, .int .i64 a1_1, .slice A1_2 l1_2.length c1_2]] (by rfl) rfl rfl (by (try simp only [List.map_toArray, List.map_cons, List.map_nil]); first | done | rfl | (simp only [List.length_drop, List.length_take]; rfl)) ?_
  with_reducible refine (mat_Trans.calls a1_0 a1_1 _ _ l1_2 t142 t143 t144 _ ?side1 ?side2 A6.out).mono ?_
  (case side1 => exact Kd.C_keep 0 HR1_2.out (by repeat (first | (with_reducible first | exact HK.out | apply KeepBut.set_ | apply keep_drewN | apply keep_drew | apply keep_alloc | refine keep_far ?_ GW126.out _ | refine keep_far ?_ GW127.out _ | refine keep_far ?_ GW128.out _) | exact HK.out)) hf1_2)
  (case side2 => exact HC1_2.out)
  rintro e w16 ⟨v145, rfl, ho0, hb⟩
  refine ⟨_, rfl, ?_⟩
  have n0_ := Aside0.mk (Kd.R_elder' (by (with_reducible repeat (first | apply Kd.R_alloc | apply Kd.R_drewN | apply Kd.R_drew)); exact HO140.out) (Kd.R_base ho0) hb)
  have n1_ := Aside0.mk (Kd.R_lower (Kd.R_new' ho0 (Kd.R_lt (by (with_reducible repeat (first | apply Kd.R_alloc | apply Kd.R_drewN | apply Kd.R_drew)); exact HO140.out))) (keep_size (w := w) (g := g) (row := none) (by repeat (first | (with_reducible first | exact HK.out | apply KeepBut.set_ | apply keep_drewN | apply keep_drew | apply keep_alloc | refine keep_far ?_ GW126.out _ | refine keep_far ?_ GW127.out _ | refine keep_far ?_ GW128.out _) | exact HK.out))))
  have n2_ := Aside0.mk (IsS77.below (by repeat (first | (with_reducible first | exact HI0.out | apply IsS77.alloc | apply IsS77.drewN | apply IsS77.drew | apply IsS77.set_0 | refine IsS77.far ?_ NB0_126.out _ | refine IsS77.far ?_ NB0_127.out _ | refine IsS77.far ?_ NB0_128.out _) | exact HI0.out)) hb)
  have n3_ := Aside0.mk (blk_below (g := gb126) (o := .cells #[.int .i64 a1_0, .int .i64 a1_1, .slice A1_2 l1_2.length c1_2] 26 (0, 0)) (by (with_reducible repeat (first | refine blk_drewN ?_ _ | refine blk_drew ?_ | refine blk_alloc ?_ _)); exact BK126.out) hb)
  have n4_ := Aside0.mk (blk_below (g := gb127) (o := .cells #[.int .i64 a2_0, .int .i64 a2_1, .slice A2_2 l2_2.length c2_2] 26 (0, 0)) (by (with_reducible repeat (first | refine blk_drewN ?_ _ | refine blk_drew ?_ | refine blk_alloc ?_ _)); exact BK127.out) hb)
  have n5_ := Aside0.mk (blk_below (g := gb128) (o := .cells #[.int .i64 0, .int .i64 0, .slice none 0 0] 26 (0, 0)) (by (with_reducible repeat (first | refine blk_drewN ?_ _ | refine blk_drew ?_ | refine blk_alloc ?_ _)); exact BK128.out) hb)
  have n6_ := Aside0.mk (KeepBut.trans (by repeat (first | (with_reducible first | exact HK.out | apply KeepBut.set_ | apply keep_drewN | apply keep_drew | apply keep_alloc | refine keep_far ?_ GW126.out _ | refine keep_far ?_ GW127.out _ | refine keep_far ?_ GW128.out _) | exact HK.out)) (KeepBut.of_below hb g none) (.inl rfl))
  have n7_ := Aside0.mk (below_step (by repeat (first | (with_reducible first | exact HB.out | apply below_alloc | apply pw_below_drewN | apply below_drew1 | refine below_set ?_ (IsS77.ge HI0.out) | refine below_set ?_ GE126.out | refine below_set ?_ GE127.out | refine below_set ?_ GE128.out) | exact HB.out)) hb)
  clear HO140
  clear HI0
  clear BK126
  clear BK127
  clear BK128
  clear HK
  clear HB
  have HO140 := n0_
  have HO146 := n1_
  have HI0 := n2_
  have BK126 := n3_
  have BK127 := n4_
  have BK128 := n5_
  have HK := n6_
  have HB := n7_
  clear n0_ n1_ n2_ n3_ n4_ n5_ n6_ n7_
  (try clear hb)
  (try clear hb2)
  (try clear hk)
  (try clear hi)
  (try clear ho0)
  obtain ⟨Ao17, co17, eo17⟩ := Kd.R_slice HO140.out
  (first | subst eo17 | (injection eo17 with f1_ f2_ f3_; have f4_ := f1_.symm; have f5_ := f3_.symm; clear f1_ f2_ f3_; subst f4_; subst f5_))
  obtain ⟨Ao18, co18, eo18⟩ := Kd.R_slice HO146.out
  (first | subst eo18 | (injection eo18 with f1_ f2_ f3_; have f4_ := f1_.symm; have f5_ := f3_.symm; clear f1_ f2_ f3_; subst f4_; subst f5_))
  refine hK.out _ _ ⟨(blk_cell BK126.out 0).trans rfl, (blk_cell BK126.out 1).trans rfl, (blk_cell BK126.out 2).trans rfl, (blk_cell BK127.out 0).trans rfl, (blk_cell BK127.out 1).trans rfl, (blk_cell BK127.out 2).trans rfl⟩ (fun hHeld => ?_)
  clear hK K
  refine norm_ (a' := ?_) ?_ ?_
  rotate_left
  · show Act.put _ (some 17) _ = _
    simp only [Act.put, List.setIfInBounds_toArray, List.set_cons_zero, List.set_cons_succ, i64_w, i32_w]
    rfl
  refine one_ (i := 11) (N := some 18) #[true, true, true, true, true, true, true, true, true, true, true, true, false, false, false, false, false] rfl rfl (one_of HT_.out (by kernel_rfl)) (by decide) (fun K hK => ?_)
  refine goes_ Try.func46 (by kernel_rfl) rfl #[.agg #[.int .i64 t136, .int .i64 t137, .slice Ao17 t138.length co17], .agg #[.int .i64 t142, .int .i64 t143, .slice Ao18 t144.length co18]] (by rfl) rfl rfl (by (try simp only [List.map_toArray, List.map_cons, List.map_nil]); first | done | rfl | (simp only [List.length_drop, List.length_take]; rfl)) ?_
  with_reducible refine (mat_Mul.calls t136 t137 _ _ t138 t142 t143 _ _ t144 t147 t148 t149 t152 t153 _ ?side1 ?side2 ?side3 ?side4 A7.out).mono ?_
  (case side1 => repeat (first | exact (Kd.R_reads' HO140.out).2.2 | (with_reducible refine Kd.C_alloc ?_ _) | (with_reducible refine Kd.C_drewN ?_ _) | (with_reducible refine Kd.C_drew ?_)))
  (case side2 => exact (Kd.R_reads' HO140.out).2.1)
  (case side3 => repeat (first | exact (Kd.R_reads' HO146.out).2.2 | (with_reducible refine Kd.C_alloc ?_ _) | (with_reducible refine Kd.C_drewN ?_ _) | (with_reducible refine Kd.C_drew ?_)))
  (case side4 => exact (Kd.R_reads' HO146.out).2.1)
  rintro e w19 ⟨v150, rfl, ho0, hb⟩
  refine ⟨_, rfl, ?_⟩
  have n0_ := Aside0.mk (Kd.R_elder' (by (with_reducible repeat (first | apply Kd.R_alloc | apply Kd.R_drewN | apply Kd.R_drew)); exact HO140.out) (Kd.R_base ho0) hb)
  have n1_ := Aside0.mk (Kd.R_elder' (by (with_reducible repeat (first | apply Kd.R_alloc | apply Kd.R_drewN | apply Kd.R_drew)); exact HO146.out) (Kd.R_base ho0) hb)
  have n2_ := Aside0.mk (Kd.R_lower (Kd.R_new' (Kd.R_new' ho0 (Kd.R_lt (by (with_reducible repeat (first | apply Kd.R_alloc | apply Kd.R_drewN | apply Kd.R_drew)); exact HO140.out))) (Kd.R_lt (by (with_reducible repeat (first | apply Kd.R_alloc | apply Kd.R_drewN | apply Kd.R_drew)); exact HO146.out))) (keep_size (w := w) (g := g) (row := none) (by repeat (first | (with_reducible first | exact HK.out | apply KeepBut.set_ | apply keep_drewN | apply keep_drew | apply keep_alloc | refine keep_far ?_ GW126.out _ | refine keep_far ?_ GW127.out _ | refine keep_far ?_ GW128.out _) | exact HK.out))))
  have n3_ := Aside0.mk (IsS77.below (by repeat (first | (with_reducible first | exact HI0.out | apply IsS77.alloc | apply IsS77.drewN | apply IsS77.drew | apply IsS77.set_0 | refine IsS77.far ?_ NB0_126.out _ | refine IsS77.far ?_ NB0_127.out _ | refine IsS77.far ?_ NB0_128.out _) | exact HI0.out)) hb)
  have n4_ := Aside0.mk (blk_below (g := gb126) (o := .cells #[.int .i64 a1_0, .int .i64 a1_1, .slice A1_2 l1_2.length c1_2] 26 (0, 0)) (by (with_reducible repeat (first | refine blk_drewN ?_ _ | refine blk_drew ?_ | refine blk_alloc ?_ _)); exact BK126.out) hb)
  have n5_ := Aside0.mk (blk_below (g := gb127) (o := .cells #[.int .i64 a2_0, .int .i64 a2_1, .slice A2_2 l2_2.length c2_2] 26 (0, 0)) (by (with_reducible repeat (first | refine blk_drewN ?_ _ | refine blk_drew ?_ | refine blk_alloc ?_ _)); exact BK127.out) hb)
  have n6_ := Aside0.mk (blk_below (g := gb128) (o := .cells #[.int .i64 0, .int .i64 0, .slice none 0 0] 26 (0, 0)) (by (with_reducible repeat (first | refine blk_drewN ?_ _ | refine blk_drew ?_ | refine blk_alloc ?_ _)); exact BK128.out) hb)
  have n7_ := Aside0.mk (KeepBut.trans (by repeat (first | (with_reducible first | exact HK.out | apply KeepBut.set_ | apply keep_drewN | apply keep_drew | apply keep_alloc | refine keep_far ?_ GW126.out _ | refine keep_far ?_ GW127.out _ | refine keep_far ?_ GW128.out _) | exact HK.out)) (KeepBut.of_below hb g none) (.inl rfl))
  have n8_ := Aside0.mk (below_step (by repeat (first | (with_reducible first | exact HB.out | apply below_alloc | apply pw_below_drewN | apply below_drew1 | refine below_set ?_ (IsS77.ge HI0.out) | refine below_set ?_ GE126.out | refine below_set ?_ GE127.out | refine below_set ?_ GE128.out) | exact HB.out)) hb)
  clear HO140
  clear HO146
  clear HI0
  clear BK126
  clear BK127
  clear BK128
  clear HK
  clear HB
  have HO140 := n0_
  have HO146 := n1_
  have HO151 := n2_
  have HI0 := n3_
  have BK126 := n4_
  have BK127 := n5_
  have BK128 := n6_
  have HK := n7_
  have HB := n8_
  clear n0_ n1_ n2_ n3_ n4_ n5_ n6_ n7_ n8_
  (try clear hb)
  (try clear hb2)
  (try clear hk)
  (try clear hi)
  (try clear ho0)
  obtain ⟨Ao20, co20, eo20⟩ := Kd.R_slice HO151.out
  (first | subst eo20 | (injection eo20 with f1_ f2_ f3_; have f4_ := f1_.symm; have f5_ := f3_.symm; clear f1_ f2_ f3_; subst f4_; subst f5_))
  refine hK.out _ _ ⟨(blk_cell BK126.out 0).trans rfl, (blk_cell BK126.out 1).trans rfl, (blk_cell BK126.out 2).trans rfl, (blk_cell BK127.out 0).trans rfl, (blk_cell BK127.out 1).trans rfl, (blk_cell BK127.out 2).trans rfl⟩ (fun hHeld => ?_)
  clear hK K
  refine norm_ (a' := ?_) ?_ ?_
  rotate_left
  · show Act.put _ (some 18) _ = _
    simp only [Act.put, List.setIfInBounds_toArray, List.set_cons_zero, List.set_cons_succ, i64_w, i32_w]
    rfl
  refine pure_ (i := 12) (N := some 19) (v := ?_) (a' := ?_) #[true, true, true, true, true, true, true, true, true, true, true, true, true, false, false, false, false] rfl rfl (any_of HT_.out (by kernel_rfl)) (fun _ _ _ h => h) (Or.inl ⟨by rfl, ?_⟩) ?_ ?_
  rotate_left
  · intro w'
    go_simp
    with_reducible rfl
  rotate_left
  · simp only [Act.put, List.setIfInBounds_toArray, List.set_cons_zero, List.set_cons_succ, i64_w, i32_w]
    rfl
  refine pure_ (i := 13) (N := some 20) (v := ?_) (a' := ?_) #[true, true, true, true, true, true, true, true, true, true, true, true, true, true, false, false, false] rfl rfl (any_of HT_.out (by kernel_rfl)) (fun _ _ _ h => h) (Or.inl ⟨by rfl, ?_⟩) ?_ ?_
  rotate_left
  · intro w'
    go_simp
    with_reducible rfl
  rotate_left
  · simp only [Act.put, List.setIfInBounds_toArray, List.set_cons_zero, List.set_cons_succ, i64_w, i32_w]
    rfl
  refine pure_ (i := 14) (N := some 21) (v := ?_) (a' := ?_) #[true, true, true, true, true, true, true, true, true, true, true, true, true, true, true, false, false] rfl rfl (any_of HT_.out (by kernel_rfl)) (fun _ _ _ h => h) (Or.inl ⟨by rfl, ?_⟩) ?_ ?_
  rotate_left
  · intro w'
    go_simp
    with_reducible rfl
  rotate_left
  · simp only [Act.put, List.setIfInBounds_toArray, List.set_cons_zero, List.set_cons_succ, i64_w, i32_w]
    rfl
  refine one_ (i := 15) (N := some 22) #[true, true, true, true, true, true, true, true, true, true, true, true, true, true, true, true, false] rfl rfl (one_of HT_.out (by kernel_rfl)) (by decide) (fun K hK => ?_)
  refine goes_ Try.func45 (by kernel_rfl) rfl #[.pointer (some ⟨g, 0, none⟩), .agg #[.int .i64 t147, .int .i64 t148, .slice Ao20 t149.length co20], .bool t152, .int .i64 t153] (by rfl) rfl rfl (by (try simp only [List.map_toArray, List.map_cons, List.map_nil]); first | done | rfl | (simp only [List.length_drop, List.length_take]; rfl)) ?_
  with_reducible refine (kalman_work_mat.calls g t141 t147 t148 (fun k_ => some k_ = (.slice Ao20 t149.length co20 : Value).ownBlock) (.slice Ao20 t149.length co20) t149 t152 t153 t154 t155 t156 t159 w0 _ ?side1 ?side2 ?side3 A8.out).mono ?_
  (case side1 => repeat (first | (with_reducible first | exact HI0.out | apply IsS77.alloc | apply IsS77.drewN | apply IsS77.drew | apply IsS77.set_0 | refine IsS77.far ?_ NB0_126.out _ | refine IsS77.far ?_ NB0_127.out _ | refine IsS77.far ?_ NB0_128.out _) | exact HI0.out))
  (case side2 => repeat (first | (with_reducible first | exact HB.out | apply below_alloc | apply pw_below_drewN | apply below_drew1 | refine below_set ?_ (IsS77.ge HI0.out) | refine below_set ?_ GE126.out | refine below_set ?_ GE127.out | refine below_set ?_ GE128.out) | exact HB.out))
  (case side3 => exact Kd.R_lower (Kd.R_tight rfl HO151.out) HL.out)
  rintro e w21 ⟨v157, rfl, ho0, hi, hb, hkp⟩
  refine ⟨_, rfl, ?_⟩
  have n0_ := Aside0.mk (hi)
  have n1_ := Aside0.mk (blk_kept (by (with_reducible repeat (first | refine blk_drewN ?_ _ | refine blk_drew ?_ | refine blk_alloc ?_ _)); exact BK126.out) hkp (fun hs_ => Or.elim hs_ (fun hs_ => (fun e_ => (Kd.R_ne HO151.out BK126.out (by decide)) e_) hs_) (fun e_ => NB126_0.out e_)))
  have n2_ := Aside0.mk (blk_kept (by (with_reducible repeat (first | refine blk_drewN ?_ _ | refine blk_drew ?_ | refine blk_alloc ?_ _)); exact BK127.out) hkp (fun hs_ => Or.elim hs_ (fun hs_ => (fun e_ => (Kd.R_ne HO151.out BK127.out (by decide)) e_) hs_) (fun e_ => NB127_0.out e_)))
  have n3_ := Aside0.mk (blk_kept (by (with_reducible repeat (first | refine blk_drewN ?_ _ | refine blk_drew ?_ | refine blk_alloc ?_ _)); exact BK128.out) hkp (fun hs_ => Or.elim hs_ (fun hs_ => (fun e_ => (Kd.R_ne HO151.out BK128.out (by decide)) e_) hs_) (fun e_ => NB128_0.out e_)))
  have n4_ := Aside0.mk (Kd.R_mono (ok' := fun k_ => some k_ ≠ (.slice Ao18 t144.length co18 : Value).ownBlock ∧ some k_ ≠ (v157 : Value).ownBlock) (Kd.R_keptB ((IsS77.apart HI0.out HO140.out (by decide))) hkp (fun k_ hk_ hs_ => Or.elim hs_ (fun hs_ => (hk_.1.2) hs_) (fun e_ => (hk_.2) e_))) (fun k_ hk_ => ⟨hk_.1.1.1.2, fun e_ => Or.elim (ho0.1 k_ e_.symm) (fun hs_ => hk_.2.1 (.inl hs_)) (fun hn_ => Nat.not_le.2 hk_.2.2 hn_)⟩))
  have n5_ := Aside0.mk (Kd.R_mono (ok' := fun k_ => some k_ ≠ (.slice Ao17 t138.length co17 : Value).ownBlock ∧ some k_ ≠ (v157 : Value).ownBlock) (Kd.R_keptB ((IsS77.apart HI0.out HO146.out (by decide))) hkp (fun k_ hk_ hs_ => Or.elim hs_ (fun hs_ => (hk_.1.2) hs_) (fun e_ => (hk_.2) e_))) (fun k_ hk_ => ⟨hk_.1.1.1.2, fun e_ => Or.elim (ho0.1 k_ e_.symm) (fun hs_ => hk_.2.1 (.inl hs_)) (fun hn_ => Nat.not_le.2 hk_.2.2 hn_)⟩))
  have n6_ := Aside0.mk (Kd.R_mono (ok' := fun k_ => some k_ ≠ (.slice Ao17 t138.length co17 : Value).ownBlock ∧ some k_ ≠ (.slice Ao18 t144.length co18 : Value).ownBlock) (Kd.R_raise (d := (Kd.int .i64)) (b := w0.heap.size) (b' := w.heap.size) (fun _ _ _ _ h_ => h_) ho0 (fun k_ e_ => Or.elim (ho0.1 k_ e_) (fun hs_ => (fun e_ => Kd.R_base HO151.out k_ e_.symm) hs_) (fun hn_ => Nat.le_trans (keep_size (w := w) (g := g) (row := none) (by repeat (first | (with_reducible first | exact HK.out | apply KeepBut.set_ | apply keep_drewN | apply keep_drew | apply keep_alloc | refine keep_far ?_ GW126.out _ | refine keep_far ?_ GW127.out _ | refine keep_far ?_ GW128.out _) | exact HK.out))) hn_))) (fun k_ hk_ => ⟨Or.elim hk_ (fun hs_ => fun e_ => ((((IsS77.apart HI0.out HO140.out (by decide))).1 k_ e_.symm).1.2) hs_) (fun hn_ => (Kd.fresh' (Kd.R_lt (by (with_reducible repeat (first | apply Kd.R_alloc | apply Kd.R_drewN | apply Kd.R_drew)); exact HO140.out)) k_ hn_)), Or.elim hk_ (fun hs_ => fun e_ => ((((IsS77.apart HI0.out HO146.out (by decide))).1 k_ e_.symm).1.2) hs_) (fun hn_ => (Kd.fresh' (Kd.R_lt (by (with_reducible repeat (first | apply Kd.R_alloc | apply Kd.R_drewN | apply Kd.R_drew)); exact HO146.out)) k_ hn_))⟩))
  have n7_ := Aside0.mk (Kept.keepG (by repeat (first | (with_reducible first | exact HK.out | apply KeepBut.set_ | apply keep_drewN | apply keep_drew | apply keep_alloc | refine keep_far ?_ GW126.out _ | refine keep_far ?_ GW127.out _ | refine keep_far ?_ GW128.out _) | exact HK.out)) hkp (fun k_ hs_ => Or.elim hs_ (fun hs_ => (fun e_ => .inr (Kd.R_base HO151.out k_ e_.symm)) hs_) (fun e_ => .inl e_)))
  have n8_ := Aside0.mk (hb)
  clear HI0
  clear BK126
  clear BK127
  clear BK128
  clear HO140
  clear HO146
  clear HK
  clear HB
  clear HO151
  have HI0 := n0_
  have BK126 := n1_
  have BK127 := n2_
  have BK128 := n3_
  have HO140 := n4_
  have HO146 := n5_
  have HO158 := n6_
  have HK := n7_
  have HB := n8_
  clear n0_ n1_ n2_ n3_ n4_ n5_ n6_ n7_ n8_
  (try clear hb)
  (try clear hkp)
  (try clear ho0)
  obtain ⟨Ao24, co24, eo24⟩ := Kd.R_slice HO158.out
  (first | subst eo24 | (injection eo24 with f1_ f2_ f3_; have f4_ := f1_.symm; have f5_ := f3_.symm; clear f1_ f2_ f3_; subst f4_; subst f5_))
  refine hK.out _ _ ⟨(blk_cell BK126.out 0).trans rfl, (blk_cell BK126.out 1).trans rfl, (blk_cell BK126.out 2).trans rfl, (blk_cell BK127.out 0).trans rfl, (blk_cell BK127.out 1).trans rfl, (blk_cell BK127.out 2).trans rfl⟩ (fun hHeld => ?_)
  clear hK K
  refine norm_ (a' := ?_) ?_ ?_
  rotate_left
  · show Act.put _ (some 22) _ = _
    simp only [Act.put, List.setIfInBounds_toArray, List.set_cons_zero, List.set_cons_succ, i64_w, i32_w]
    rfl
  refine one_ (i := 16) (N := none) #[true, true, true, true, true, true, true, true, true, true, true, true, true, true, true, true, true] rfl rfl (one_of HT_.out (by kernel_rfl)) (by decide) (fun K hK => ?_)
  have hs22 : w21.cell? ⟨gb128, 0, none⟩ = some (.int .i64 0) := (blk_cell BK128.out 0).trans rfl
  have hfs22 := blk_frozen BK128.out 0
  have hns22_0 := NB126_128.out
  have hns22_1 := NB127_128.out
  have hms22_0 := NB128_126.out
  have hms22_1 := NB128_127.out
  have hs23 : w21.cell? ⟨gb128, 1, none⟩ = some (.int .i64 0) := (blk_cell BK128.out 1).trans rfl
  have hfs23 := blk_frozen BK128.out 1
  have hns23_0 := NB126_128.out
  have hns23_1 := NB127_128.out
  have hms23_0 := NB128_126.out
  have hms23_1 := NB128_127.out
  have hs25 : w21.cell? ⟨gb128, 2, none⟩ = some (.slice none 0 0) := (blk_cell BK128.out 2).trans rfl
  have hfs25 := blk_frozen BK128.out 2
  have hns25_0 := NB126_128.out
  have hns25_1 := NB127_128.out
  have hms25_0 := NB128_126.out
  have hms25_1 := NB128_127.out
  refine skip_ (w1 := ?_) (by rfl) rfl ?_ ?_
  rotate_left
  · go_simp
    rfl
  refine hK.out _ _ ⟨((cell_far (p := ⟨gb128, _, none⟩) NB126_128.out _).trans (((cell_far (p := ⟨gb128, _, none⟩) NB126_128.out _).trans (((cell_far (p := ⟨gb128, _, none⟩) NB126_128.out _).trans (hHeld.1)))))), ((cell_far (p := ⟨gb128, _, none⟩) NB126_128.out _).trans (((cell_far (p := ⟨gb128, _, none⟩) NB126_128.out _).trans (((cell_far (p := ⟨gb128, _, none⟩) NB126_128.out _).trans (hHeld.2.1)))))), ((cell_far (p := ⟨gb128, _, none⟩) NB126_128.out _).trans (((cell_far (p := ⟨gb128, _, none⟩) NB126_128.out _).trans (((cell_far (p := ⟨gb128, _, none⟩) NB126_128.out _).trans (hHeld.2.2.1)))))), ((cell_far (p := ⟨gb128, _, none⟩) NB127_128.out _).trans (((cell_far (p := ⟨gb128, _, none⟩) NB127_128.out _).trans (((cell_far (p := ⟨gb128, _, none⟩) NB127_128.out _).trans (hHeld.2.2.2.1)))))), ((cell_far (p := ⟨gb128, _, none⟩) NB127_128.out _).trans (((cell_far (p := ⟨gb128, _, none⟩) NB127_128.out _).trans (((cell_far (p := ⟨gb128, _, none⟩) NB127_128.out _).trans (hHeld.2.2.2.2.1)))))), ((cell_far (p := ⟨gb128, _, none⟩) NB127_128.out _).trans (((cell_far (p := ⟨gb128, _, none⟩) NB127_128.out _).trans (((cell_far (p := ⟨gb128, _, none⟩) NB127_128.out _).trans (hHeld.2.2.2.2.2))))))⟩ (fun hHeld => ?_)
  clear hK K
  refine done_ (done_of HT_.out (by kernel_rfl)) ?_
  try go_wp2
  refine bodyPost_ret (results_cell_row rfl _ _ gb128 26 #[.int .i64 t154, .int .i64 t155, .slice Ao24 t156.length co24] (0, 0) _ rfl (by (with_reducible repeat (first | refine blk_drewN ?_ _ | refine blk_drew ?_ | refine blk_alloc ?_ _)); refine blk_put (cs := #[.int .i64 t154, .int .i64 t155, .slice none 0 0]) ?_ 2 _ rfl; (with_reducible repeat (first | refine blk_drewN ?_ _ | refine blk_drew ?_ | refine blk_alloc ?_ _)); refine blk_put (cs := #[.int .i64 t154, .int .i64 0, .slice none 0 0]) ?_ 1 _ rfl; (with_reducible repeat (first | refine blk_drewN ?_ _ | refine blk_drew ?_ | refine blk_alloc ?_ _)); refine blk_put (cs := #[.int .i64 0, .int .i64 0, .slice none 0 0]) ?_ 0 _ rfl; (with_reducible repeat (first | refine blk_drewN ?_ _ | refine blk_drew ?_ | refine blk_alloc ?_ _)); exact BK128.out) Try.underlying26 rfl (by kernel_rfl)) rfl ?_
  exact ⟨_, by first | rfl | (simp [errW_none, errW_some] <;> rfl) | (simp [*, errW_none, errW_some] <;> rfl), by (with_reducible repeat (first | apply Kd.R_alloc | apply Kd.R_drewN | apply Kd.R_drew)); exact Kd.R_mono (Kd.R_far (p := ⟨gb128, 2, none⟩) (Kd.R_far (p := ⟨gb128, 1, none⟩) (Kd.R_far (p := ⟨gb128, 0, none⟩) (Kd.R_types HO158.out BK128.out (by decide)) (fun _ hk => hk.2) (.int .i64 t154)) (fun _ hk => hk.2) (.int .i64 t155)) (fun _ hk => hk.2) (.slice Ao24 t156.length co24)) (fun _ hk => trivial), by repeat (first | (with_reducible first | exact HI0.out | apply IsS77.alloc | apply IsS77.drewN | apply IsS77.drew | apply IsS77.set_0 | refine IsS77.far ?_ NB0_126.out _ | refine IsS77.far ?_ NB0_127.out _ | refine IsS77.far ?_ NB0_128.out _) | exact HI0.out), by repeat (first | (with_reducible first | exact HB.out | apply below_alloc | apply pw_below_drewN | apply below_drew1 | refine below_set ?_ (IsS77.ge HI0.out) | refine below_set ?_ GE126.out | refine below_set ?_ GE127.out | refine below_set ?_ GE128.out) | exact HB.out), by repeat (first | (with_reducible first | exact HK.out | apply KeepBut.set_ | apply keep_drewN | apply keep_drew | apply keep_alloc | refine keep_far ?_ GW126.out _ | refine keep_far ?_ GW127.out _ | refine keep_far ?_ GW128.out _) | exact HK.out)⟩

-- function 86: qfix_Clamp: in PQ

-- function 63: qfix_both: in PQ

-- function 61: qfix_Sub: in PQ

-- function 62: qfix_Add: in PQ

-- NOT PRINTED: function 33 (kalman_work_innov)

/-! ### kalman_work_one: function 34 -/
-- function 64: bits_Mul64: in PQ

-- function 65: qfix_size: in PQ

-- function 66: qfix_signed: in PQ

-- function 35: qfix_Mul: in PQ

-- NOT PRINTED: function 72 (mat_each)

-- function 38: in PQ (KJ)

end Go.Proofs.Ytninmcmajbfccaa.PR
