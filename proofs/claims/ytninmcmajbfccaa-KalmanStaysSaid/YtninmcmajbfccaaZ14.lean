import Derived.Test.YtninmcmajbfccaaZ12
import Derived.Test.YtninmcmajbfccaaZ13
import Derived.Test.YtninmcmajbfccaaZ10
/- Joined by a program of this session's own (wip/pack.py) out of its texts; the parts PQ, PR, PS were laid by its own program (wip/print-patch.py over the kit's print) out of the translation; Lean checks all. -/
-- Laid by a program of this session's own (wip/print-patch.py over the kit's print), out of the translation; Lean checks it.
namespace Go.Proofs.Ytninmcmajbfccaa.PR
open Go.RowKit Go.Proofs.Ytninmcmajbfccaa.PQ Go.Proofs.YtninmcmajbfccaaW.PrintWords Go.Proofs.YtninmcmajbfccaaW.PrintLast Go.Proofs.YtninmcmajbfccaaW.PrintMore
attribute [local go_sem] max2_int min2_int max_two min_two max_three min_three max_four min_four   -- for this text's walks alone
set_option linter.unusedVariables false
set_option linter.unusedSimpArgs false

/-! ### kalman_Good: function 15 -/
def kalman_Good.l0 : Nat → Int → Int → Int → Int → List Int → Option (Int × Int × List Int)
  | 0, _, _, _, _, _ => none
  | k + 1, x14, x15, x172000, x172001, x172002 => if x15 < x14 then (if 0 ≤ (wrap64 ((wrap64 (x15 * x172001)) + x15)) then (if (wrap64 ((wrap64 (x15 * x172001)) + x15)) < (x172002.length : Int) then (kalman_Good.l0 k x14 (wrap64 (x15 + 1)) x172000 x172001 (x172002.set ((wrap64 ((wrap64 (x15 * x172001)) + x15)) : Int).toNat (mx (rd x172002 (wrap64 ((wrap64 (x15 * x172001)) + x15))) 0))) else (none)) else (none)) else (some (x172000, x172001, x172002))
def kalman_Good.f (k : Nat) (a0_0 : Int) (a0_1 : Int) (l0_2 : List Int) : Option (Int × Int × List Int) := (mat_Even.f a0_0 a0_1 l0_2).bind fun bt164 => (kalman_Good.l0 k bt164.1 0 bt164.1 bt164.2.1 bt164.2.2.1)
def kalman_Good.T5 : Bool × List (List Nat × List Nat) := (true, [([], []), ([0], [0]), ([], []), ([], []), ([3], [3]), ([2, 4], [2, 4]), ([], []), ([5, 6], [5, 6]), ([], []), ([8], [8]), ([], []), ([], []), ([11], [11]), ([10, 12], [10, 12]), ([], []), ([13, 14], [13, 14]), ([9, 15], [9, 15]), ([16], [16]), ([17], [17]), ([1, 7, 0, 1, 2, 3, 4, 5, 6, 7, 8, 9, 10, 11, 12, 13, 14, 15, 16, 17, 18], [1, 7]), ([19, 18, 0, 1, 2, 3, 4, 5, 6, 7, 8, 9, 10, 11, 12, 13, 14, 15, 16, 17, 18], [18, 19])])
def kalman_Good.B5 : List Nat := [0, 1, 0, 0, 8, 28, 0, 124, 0, 256, 0, 0, 2048, 7168, 0, 31744, 65280, 130816, 261888, 524287, 1048575]
theorem kalman_Good.tab5 : rtab .any (opsOf Try.f15 5) = kalman_Good.T5 := by kernel_rfl
theorem kalman_Good.bits5 : waitsOk kalman_Good.T5.2 kalman_Good.B5 = true := by kernel_rfl
set_option maxHeartbeats 8000000 in
set_option maxRecDepth 100000 in
theorem kalman_Good.calls (k : Nat) (a0_0 : Int) (a0_1 : Int) (A0_2 : Option Addr) (c0_2 : Nat) (l0_2 : List Int) (r1 : Int) (r2 : Int) (r3 : List Int) (w : World) (hr0_2 : Kd.C (Kd.int .i64) w A0_2 l0_2.length l0_2) (hc0_2 : l0_2.length ≤ c0_2) (h : kalman_Good.f k a0_0 a0_1 l0_2 = some (r1, r2, r3)) :
    Calls Try.prog 15 #[.agg #[.int .i64 a0_0, .int .i64 a0_1, .slice A0_2 l0_2.length c0_2]] w fun e w' => ∃ v2_ : Value, e = .returned (.agg #[.int .i64 r1, .int .i64 r2, v2_]) ∧ Kd.R (Kd.int .i64) 22 w' w.heap.size (fun _ => True) v2_ r3 ∧ Below w.heap.size w w' := by
  have hu26 := Try.underlying26
  have HR0_2 := Aside0.mk hr0_2
  have HC0_2 := Aside0.mk hc0_2
  clear hr0_2 hc0_2
  have HB := Aside0.mk (Below.refl w.heap.size w)
  have H : ((mat_Even.f a0_0 a0_1 l0_2).bind fun bt164 => (kalman_Good.l0 k bt164.1 0 bt164.1 bt164.2.1 bt164.2.2.1)) = some (r1, r2, r3) := h
  clear h
  replace H := Option.bind_eq_some_iff.mp H
  obtain ⟨⟨t164, t165, t166, t169, t170⟩, A20, H⟩ := H
  replace H : (kalman_Good.l0 k t164 0 t164 t165 t166) = some (r1, r2, r3) := H
  have A2 := Aside0.mk A20
  clear A20
  have H' := Aside0.mk H
  clear H
  go_enter Try.func15, Try.ntmps15
  go_wp2_with (first | ((with_reducible refine gate_dst (N := 1) rfl ?_); refine box_event ?hg (N := 1) ?hd (cs := #[.int .i64 a0_0, .int .i64 a0_1, .slice A0_2 l0_2.length c0_2]) (t := 26) ?hr ?_; (case hd => rfl); (case hg => rfl); (case hr => first | (go_simp; done) | (go_simp; rfl)); intro gb162 hg w3 hbox hb; have n0_ := Aside0.mk (below_step (by repeat (first | (with_reducible first | exact HB.out | apply below_alloc | apply pw_below_drewN | apply below_drew1) | exact HB.out)) hb); have n1_ := Aside0.mk (hbox); have n2_ := Aside0.mk ((by rw [hg]; exact (below_size (by repeat (first | (with_reducible first | exact HB.out | apply below_alloc | apply pw_below_drewN | apply below_drew1) | exact HB.out))) : w.heap.size ≤ gb162)); have n3_ := Aside0.mk ((by rw [hg]; exact (below_size (by repeat (first | (with_reducible first | exact HB.out | apply below_alloc | apply pw_below_drewN | apply below_drew1) | exact HB.out))) : w.heap.size ≤ gb162)); clear HB; have HB := n0_; have BK162 := n1_; have GW162 := n2_; have GE162 := n3_; clear n0_ n1_ n2_ n3_; clear hb hbox hg) | ((with_reducible refine gate_dst (N := 2) rfl ?_); refine box_event ?hg (N := 2) ?hd (cs := #[.int .i64 0, .int .i64 0, .slice none 0 0]) (t := 26) ?hr ?_; (case hd => rfl); (case hg => rfl); (case hr => first | (go_simp; done) | (go_simp; rfl)); intro gb163 hg w4 hbox hb; have n0_ := Aside0.mk (blk_below (g := gb162) (o := .cells #[.int .i64 a0_0, .int .i64 a0_1, .slice A0_2 l0_2.length c0_2] 26 (0, 0)) (by (with_reducible repeat (first | refine blk_drewN ?_ _ | refine blk_drew ?_ | refine blk_alloc ?_ _)); exact BK162.out) hb); have n1_ := Aside0.mk (below_step (by repeat (first | (with_reducible first | exact HB.out | apply below_alloc | apply pw_below_drewN | apply below_drew1 | refine below_set ?_ GE162.out) | exact HB.out)) hb); have n2_ := Aside0.mk (hbox); have n3_ := Aside0.mk ((by rw [hg]; exact (below_size (by repeat (first | (with_reducible first | exact HB.out | apply below_alloc | apply pw_below_drewN | apply below_drew1 | refine below_set ?_ GE162.out) | exact HB.out))) : w.heap.size ≤ gb163)); have n4_ := Aside0.mk ((by rw [hg]; exact (below_size (by repeat (first | (with_reducible first | exact HB.out | apply below_alloc | apply pw_below_drewN | apply below_drew1 | refine below_set ?_ GE162.out) | exact HB.out))) : w.heap.size ≤ gb163)); have n5_ := Aside0.mk ((by rw [hg]; exact Nat.ne_of_lt (blk_lt (g := gb162) (o := .cells #[.int .i64 a0_0, .int .i64 a0_1, .slice A0_2 l0_2.length c0_2] 26 (0, 0)) (by (with_reducible repeat (first | refine blk_drewN ?_ _ | refine blk_drew ?_ | refine blk_alloc ?_ _)); exact BK162.out)) : gb162 ≠ gb163)); have n6_ := Aside0.mk ((by rw [hg]; exact Nat.ne_of_gt (blk_lt (g := gb162) (o := .cells #[.int .i64 a0_0, .int .i64 a0_1, .slice A0_2 l0_2.length c0_2] 26 (0, 0)) (by (with_reducible repeat (first | refine blk_drewN ?_ _ | refine blk_drew ?_ | refine blk_alloc ?_ _)); exact BK162.out)) : gb163 ≠ gb162)); clear BK162; clear HB; have BK162 := n0_; have HB := n1_; have BK163 := n2_; have GW163 := n3_; have GE163 := n4_; have NB162_163 := n5_; have NB163_162 := n6_; clear n0_ n1_ n2_ n3_ n4_ n5_ n6_; clear hb hbox hg; have hnb5 := NB162_163.out; have hnc5 := NB163_162.out; have hcz6_0 : w4.cell? ⟨gb162, 0, none⟩ = some (.int .i64 a0_0) := (blk_cell BK162.out 0).trans rfl; have hcz6_1 : w4.cell? ⟨gb162, 1, none⟩ = some (.int .i64 a0_1) := (blk_cell BK162.out 1).trans rfl; have hcz6_2 : w4.cell? ⟨gb162, 2, none⟩ = some (.slice A0_2 l0_2.length c0_2) := (blk_cell BK162.out 2).trans rfl; have hfz6_0 := blk_frozen BK162.out 0; have hfz6_1 := blk_frozen BK162.out 1; have hfz6_2 := blk_frozen BK162.out 2) | ((with_reducible refine gate_callee (f := 38) rfl ?_); refine goesL_ (some 9) rfl rfl Try.func38 (by kernel_rfl) rfl #[.agg #[.int .i64 a0_0, .int .i64 a0_1, .slice A0_2 l0_2.length c0_2]] rfl (by (try simp only [List.map_toArray, List.map_cons, List.map_nil]); first | done | rfl | (simp only [List.length_drop, List.length_take]; rfl)) ?_; (with_reducible refine (mat_Even.calls a0_0 a0_1 _ _ l0_2 t164 t165 t166 t169 t170 _ ?side1 ?side2 A2.out).mono ?_); (case side1 => repeat (first | exact (Kd.C_below HR0_2.out HB.out) | (with_reducible refine Kd.C_alloc ?_ _) | (with_reducible refine Kd.C_drewN ?_ _) | (with_reducible refine Kd.C_drew ?_))); (case side2 => exact HC0_2.out); rintro e w7 ⟨v167, rfl, ho0, hb⟩; refine ⟨_, rfl, ?_⟩; have n0_ := Aside0.mk (Kd.R_lower ho0 (below_size (by repeat (first | (with_reducible first | exact HB.out | apply below_alloc | apply pw_below_drewN | apply below_drew1 | refine below_set ?_ GE162.out | refine below_set ?_ GE163.out) | exact HB.out)))); have n1_ := Aside0.mk (blk_below (g := gb162) (o := .cells #[.int .i64 a0_0, .int .i64 a0_1, .slice A0_2 l0_2.length c0_2] 26 (0, 0)) (by (with_reducible repeat (first | refine blk_drewN ?_ _ | refine blk_drew ?_ | refine blk_alloc ?_ _)); exact BK162.out) hb); have n2_ := Aside0.mk (blk_below (g := gb163) (o := .cells #[.int .i64 0, .int .i64 0, .slice none 0 0] 26 (0, 0)) (by (with_reducible repeat (first | refine blk_drewN ?_ _ | refine blk_drew ?_ | refine blk_alloc ?_ _)); exact BK163.out) hb); have n3_ := Aside0.mk (below_step (by repeat (first | (with_reducible first | exact HB.out | apply below_alloc | apply pw_below_drewN | apply below_drew1 | refine below_set ?_ GE162.out | refine below_set ?_ GE163.out) | exact HB.out)) hb); clear BK162; clear BK163; clear HB; have HO168 := n0_; have BK162 := n1_; have BK163 := n2_; have HB := n3_; clear n0_ n1_ n2_ n3_; (try clear hb); (try clear hb2); (try clear hk); (try clear hi); (try clear ho0)) | ((with_reducible refine gate_dst (N := 3) rfl ?_); refine box_event ?hg (N := 3) ?hd (cs := #[.int .i64 0, .int .i64 0, .slice none 0 0]) (t := 26) ?hr ?_; (case hd => rfl); (case hg => rfl); (case hr => first | (go_simp; done) | (go_simp; rfl)); intro gb171 hg w8 hbox hb; have n0_ := Aside0.mk (Kd.R_below (by (with_reducible repeat (first | apply Kd.R_alloc | apply Kd.R_drewN | apply Kd.R_drew)); exact HO168.out) hb); have n1_ := Aside0.mk (blk_below (g := gb162) (o := .cells #[.int .i64 a0_0, .int .i64 a0_1, .slice A0_2 l0_2.length c0_2] 26 (0, 0)) (by (with_reducible repeat (first | refine blk_drewN ?_ _ | refine blk_drew ?_ | refine blk_alloc ?_ _)); exact BK162.out) hb); have n2_ := Aside0.mk (blk_below (g := gb163) (o := .cells #[.int .i64 0, .int .i64 0, .slice none 0 0] 26 (0, 0)) (by (with_reducible repeat (first | refine blk_drewN ?_ _ | refine blk_drew ?_ | refine blk_alloc ?_ _)); exact BK163.out) hb); have n3_ := Aside0.mk (below_step (by repeat (first | (with_reducible first | exact HB.out | apply below_alloc | apply pw_below_drewN | apply below_drew1 | refine below_set ?_ GE162.out | refine below_set ?_ GE163.out) | exact HB.out)) hb); have n4_ := Aside0.mk (hbox); have n5_ := Aside0.mk ((by rw [hg]; exact (below_size (by repeat (first | (with_reducible first | exact HB.out | apply below_alloc | apply pw_below_drewN | apply below_drew1 | refine below_set ?_ GE162.out | refine below_set ?_ GE163.out) | exact HB.out))) : w.heap.size ≤ gb171)); have n6_ := Aside0.mk ((by rw [hg]; exact (below_size (by repeat (first | (with_reducible first | exact HB.out | apply below_alloc | apply pw_below_drewN | apply below_drew1 | refine below_set ?_ GE162.out | refine below_set ?_ GE163.out) | exact HB.out))) : w.heap.size ≤ gb171)); have n7_ := Aside0.mk ((by rw [hg]; exact Nat.ne_of_lt (blk_lt (g := gb162) (o := .cells #[.int .i64 a0_0, .int .i64 a0_1, .slice A0_2 l0_2.length c0_2] 26 (0, 0)) (by (with_reducible repeat (first | refine blk_drewN ?_ _ | refine blk_drew ?_ | refine blk_alloc ?_ _)); exact BK162.out)) : gb162 ≠ gb171)); have n8_ := Aside0.mk ((by rw [hg]; exact Nat.ne_of_gt (blk_lt (g := gb162) (o := .cells #[.int .i64 a0_0, .int .i64 a0_1, .slice A0_2 l0_2.length c0_2] 26 (0, 0)) (by (with_reducible repeat (first | refine blk_drewN ?_ _ | refine blk_drew ?_ | refine blk_alloc ?_ _)); exact BK162.out)) : gb171 ≠ gb162)); have n9_ := Aside0.mk ((by rw [hg]; exact Nat.ne_of_lt (blk_lt (g := gb163) (o := .cells #[.int .i64 0, .int .i64 0, .slice none 0 0] 26 (0, 0)) (by (with_reducible repeat (first | refine blk_drewN ?_ _ | refine blk_drew ?_ | refine blk_alloc ?_ _)); exact BK163.out)) : gb163 ≠ gb171)); have n10_ := Aside0.mk ((by rw [hg]; exact Nat.ne_of_gt (blk_lt (g := gb163) (o := .cells #[.int .i64 0, .int .i64 0, .slice none 0 0] 26 (0, 0)) (by (with_reducible repeat (first | refine blk_drewN ?_ _ | refine blk_drew ?_ | refine blk_alloc ?_ _)); exact BK163.out)) : gb171 ≠ gb163)); clear HO168; clear BK162; clear BK163; clear HB; have HO168 := n0_; have BK162 := n1_; have BK163 := n2_; have HB := n3_; have BK171 := n4_; have GW171 := n5_; have GE171 := n6_; have NB162_171 := n7_; have NB171_162 := n8_; have NB163_171 := n9_; have NB171_163 := n10_; clear n0_ n1_ n2_ n3_ n4_ n5_ n6_ n7_ n8_ n9_ n10_; clear hb hbox hg; have hnb9 := NB171_162.out; have hnc9 := NB162_171.out; have hnb10 := NB171_163.out; have hnc10 := NB163_171.out; have hcz11_0 : w8.cell? ⟨gb171, 0, none⟩ = some (.int .i64 0) := (blk_cell BK171.out 0).trans rfl; have hcz11_1 : w8.cell? ⟨gb171, 1, none⟩ = some (.int .i64 0) := (blk_cell BK171.out 1).trans rfl; have hcz11_2 : w8.cell? ⟨gb171, 2, none⟩ = some (.slice none 0 0) := (blk_cell BK171.out 2).trans rfl; have hfz11_0 := blk_frozen BK171.out 0; have hfz11_1 := blk_frozen BK171.out 1; have hfz11_2 := blk_frozen BK171.out 2; obtain ⟨Ao12, co12, eo12⟩ := Kd.R_slice HO168.out; subst eo12))
  go_loopg [15] k (fun kq v15 w' => ∃ (x15_1 : Int) (x172002_1 : List Int) (u172002 : Value), v15 = .int .i64 x15_1 ∧ Aside0 (kalman_Good.l0 kq t164 x15_1 t164 t165 x172002_1 = some (r1, r2, r3)) ∧ Aside0 (kq ≤ k) ∧ Aside0 (Kd.R (Kd.int .i64) 22 w' w.heap.size (fun _ => True) u172002 x172002_1) ∧ Aside0 (w'.heap[gb162]? = some (.cells #[.int .i64 a0_0, .int .i64 a0_1, (.slice A0_2 l0_2.length c0_2)] 26 (0, 0))) ∧ Aside0 (w'.heap[gb163]? = some (.cells #[.int .i64 0, .int .i64 0, (.slice none 0 0)] 26 (0, 0))) ∧ Aside0 (w'.heap[gb171]? = some (.cells #[.int .i64 t164, .int .i64 t165, u172002] 26 (0, 0))) ∧ Aside0 (Below w.heap.size w w'))
  case atStart => exact ⟨(0), (t166), (.slice Ao12 t166.length co12), (by first | rfl | (simp; done) | (simp [*]; done)), H', ⟨Nat.le_refl _⟩, ⟨by (with_reducible repeat (first | apply Kd.R_alloc | apply Kd.R_drewN | apply Kd.R_drew)); exact Kd.R_mono (Kd.R_far (p := ⟨gb171, 2, none⟩) (Kd.R_far (p := ⟨gb171, 1, none⟩) (Kd.R_far (p := ⟨gb171, 0, none⟩) (Kd.R_types HO168.out BK171.out (by decide)) (fun _ hk => hk.2) (.int .i64 t164)) (fun _ hk => hk.2) (.int .i64 t165)) (fun _ hk => hk.2) (.slice Ao12 t166.length co12)) (fun _ hk => trivial)⟩, ⟨by (with_reducible repeat (first | refine blk_drewN ?_ _ | refine blk_drew ?_ | refine blk_alloc ?_ _)); refine blk_far ?_ NB162_171.out _; (with_reducible repeat (first | refine blk_drewN ?_ _ | refine blk_drew ?_ | refine blk_alloc ?_ _)); refine blk_far ?_ NB162_171.out _; (with_reducible repeat (first | refine blk_drewN ?_ _ | refine blk_drew ?_ | refine blk_alloc ?_ _)); refine blk_far ?_ NB162_171.out _; (with_reducible repeat (first | refine blk_drewN ?_ _ | refine blk_drew ?_ | refine blk_alloc ?_ _)); exact BK162.out⟩, ⟨by (with_reducible repeat (first | refine blk_drewN ?_ _ | refine blk_drew ?_ | refine blk_alloc ?_ _)); refine blk_far ?_ NB163_171.out _; (with_reducible repeat (first | refine blk_drewN ?_ _ | refine blk_drew ?_ | refine blk_alloc ?_ _)); refine blk_far ?_ NB163_171.out _; (with_reducible repeat (first | refine blk_drewN ?_ _ | refine blk_drew ?_ | refine blk_alloc ?_ _)); refine blk_far ?_ NB163_171.out _; (with_reducible repeat (first | refine blk_drewN ?_ _ | refine blk_drew ?_ | refine blk_alloc ?_ _)); exact BK163.out⟩, ⟨by (with_reducible repeat (first | refine blk_drewN ?_ _ | refine blk_drew ?_ | refine blk_alloc ?_ _)); refine blk_put (cs := #[.int .i64 t164, .int .i64 t165, .slice none 0 0]) ?_ 2 _ rfl; (with_reducible repeat (first | refine blk_drewN ?_ _ | refine blk_drew ?_ | refine blk_alloc ?_ _)); refine blk_put (cs := #[.int .i64 t164, .int .i64 0, .slice none 0 0]) ?_ 1 _ rfl; (with_reducible repeat (first | refine blk_drewN ?_ _ | refine blk_drew ?_ | refine blk_alloc ?_ _)); refine blk_put (cs := #[.int .i64 0, .int .i64 0, .slice none 0 0]) ?_ 0 _ rfl; (with_reducible repeat (first | refine blk_drewN ?_ _ | refine blk_drew ?_ | refine blk_alloc ?_ _)); exact BK171.out⟩, ⟨by repeat (first | (with_reducible first | exact HB.out | apply below_alloc | apply pw_below_drewN | apply below_drew1 | refine below_set ?_ GE162.out | refine below_set ?_ GE163.out | refine below_set ?_ GE171.out) | exact HB.out)⟩⟩
  case round =>
    clear H'
    try clear c1
    try clear p2
    try clear c3
    try clear c5
    try clear c9
    try clear c10
    try clear hcz11_0
    try clear hcz11_1
    try clear hcz11_2
    try clear hcz6_0
    try clear hcz6_1
    try clear hcz6_2
    try clear hfz11_0
    try clear hfz11_1
    try clear hfz11_2
    try clear hfz6_0
    try clear hfz6_1
    try clear hfz6_2
    obtain ⟨x15_1, x172002_1, u172002, rfl, HA, HK1, HO_172002, BK162, BK163, BK171, HB⟩ := hrel
    cases gk with
    | zero => exact absurd HA.out (by simp [kalman_Good.l0])
    | succ k1 =>
      have H := HA.out
      clear HA
      simp only [kalman_Good.l0] at H
      by_cases c13 : x15_1 < t164
      · rw [if_pos c13] at H
        have c13b0 : decide (x15_1 < t164) = true := decide_eq_true c13
        clear c13
        obtain ⟨ji14, hji14⟩ : ∃ j_ : Int, (wrap64 ((wrap64 (x15_1 * t165)) + x15_1)) = j_ := ⟨_, rfl⟩
        replace H : (if 0 ≤ (ji14) then (if (ji14) < (x172002_1.length : Int) then (kalman_Good.l0 k1 t164 (wrap64 (x15_1 + 1)) t164 t165 (x172002_1.set ((ji14) : Int).toNat (mx (rd x172002_1 (ji14)) 0))) else (none)) else (none)) = some (r1, r2, r3) := by first | (rw [hji14] at H; exact H) | (simp only [hji14] at H ⊢; exact H)
        have hji14w : (IntKind.i64.wrap ((wrap64 (x15_1 * t165)) + x15_1)) = ji14 := (i64_w _).trans hji14
        by_cases c15 : 0 ≤ (ji14)
        · rw [if_pos c15] at H
          have c15b0 : decide (0 ≤ (ji14)) = true := decide_eq_true c15
          clear c15
          by_cases c16 : (ji14) < (x172002_1.length : Int)
          · rw [if_pos c16] at H
            have c16b0 : decide ((ji14) < (x172002_1.length : Int)) = true := decide_eq_true c16
            clear c16
            obtain ⟨ji17, hji17⟩ : ∃ j_ : Int, (mx (rd x172002_1 (ji14)) 0) = j_ := ⟨_, rfl⟩
            replace H : (kalman_Good.l0 k1 t164 (wrap64 (x15_1 + 1)) t164 t165 (x172002_1.set ((ji14) : Int).toNat (ji17))) = some (r1, r2, r3) := by first | (rw [hji17] at H; exact H) | (simp only [hji17] at H ⊢; exact H)
            have hji17_ : (if (rd x172002_1 (ji14)) < 0 then 0 else (rd x172002_1 (ji14))) = ji17 := hji17
            obtain ⟨y173, hy173⟩ : ∃ y_ : List Int, y_ = (x172002_1.set ((ji14) : Int).toNat (ji17)) := ⟨_, rfl⟩
            replace H : (kalman_Good.l0 k1 t164 (wrap64 (x15_1 + 1)) t164 t165 y173) = some (r1, r2, r3) := by first | (rw [hy173]; with_reducible exact H) | (have H2_ := (Option.bind_some _ _).symm.trans H; rw [hy173]; with_reducible exact H2_) | (have H2_ := (Option.bind_some _ _).symm.trans H; with_reducible exact H2_) | with_reducible exact H | (rw [hy173]; exact H) | exact H
            have Ny173 := Aside0.mk hy173
            clear hy173
            have H' := Aside0.mk H
            clear H
            try go_wp2
            have n0_ := Aside0.mk (Kd.R_drew HO_172002.out)
            have n1_ := Aside0.mk (blk_drew BK162.out)
            have n2_ := Aside0.mk (blk_drew BK163.out)
            have n3_ := Aside0.mk (blk_drew BK171.out)
            have n4_ := Aside0.mk (below_drew1 HB.out)
            clear HO_172002
            clear BK162
            clear BK163
            clear BK171
            clear HB
            have HO_172002 := n0_
            have BK162 := n1_
            have BK163 := n2_
            have BK171 := n3_
            have HB := n4_
            clear n0_ n1_ n2_ n3_ n4_
            obtain ⟨Ao20, co20, eo20⟩ := Kd.R_slice HO_172002.out
            (first | subst eo20 | (injection eo20 with f1_ f2_ f3_; have f4_ := f1_.symm; have f5_ := f3_.symm; clear f1_ f2_ f3_; subst f4_; subst f5_))
            have p172 : 0 ≤ ((ji14) : Int) := of_decide_eq_true (by first | (with_reducible assumption) | assumption)
            have q172 : (ji14) < (x172002_1.length : Int) := of_decide_eq_true (by first | (with_reducible assumption) | assumption)
            obtain ⟨ad172, e172, hx172_0⟩ := Kd.at_int (Kd.R_reads' HO_172002.out).2.2 (ji14) p172 q172
            cases e172
            replace p172 := eq_true p172
            replace q172 := eq_true q172
            have p18 : 0 ≤ ((ji14) : Int) := of_decide_eq_true (by first | (with_reducible assumption) | assumption)
            have q18 : ((ji14) : Int) < ((x172002_1.length : Int) : Int) := of_decide_eq_true (by first | (with_reducible assumption) | assumption)
            obtain ⟨go18, co18, eo18, gb18, gl18, cl18, HG18⟩ := Kd.R_form HO_172002.out (by omega)
            (first | cases eo18 | (injection eo18 with ea_ en_ ec_; (first | subst ea_ | (injection ea_ with ea_; subst ea_)); subst ec_; clear en_))
            have GB18 := Aside0.mk gb18
            have GG18 := Aside0.mk HG18
            clear gb18 gl18 HG18
            (first | simp only [add_plain] at hx172_0 | skip)
            obtain ⟨hx18_0, hf18_0⟩ := Kd.R_celln 0 HO_172002.out ((ji14) : Int) p18 q18
            replace p18 := eq_true p18
            replace q18 := eq_true q18
            have HP21 := Kd.R_putn HO_172002.out ((ji14) : Int) ji17
            rw [← Ny173.out] at HP21
            have HQ21 := Aside0.mk HP21
            clear HP21
            refine start_ (n := 21) (S := fun w' => w'.cell? ⟨gb171, 0, none⟩ = some (.int .i64 t164) ∧ w'.cell? ⟨gb171, 1, none⟩ = some (.int .i64 t165) ∧ w'.cell? ⟨gb171, 2, none⟩ = some (.slice (some ⟨go18, 0, none⟩) x172002_1.length co20) ∧ w'.cell? ⟨go18, ((ji14)).toNat, none⟩ = some (.int .i64 (rd x172002_1 (ji14)))) (ds := [20]) #[false, false, false, false, false, false, false, false, false, false, false, false, false, false, false, false, false, false, false, false, false] (by kernel_rfl) rfl rfl ⟨(blk_cell BK171.out 0).trans rfl, (blk_cell BK171.out 1).trans rfl, (blk_cell BK171.out 2).trans rfl, hx172_0⟩ (fun hHeld => ?_); refine with_tabW kalman_Good.tab5 kalman_Good.bits5 (fun HT_ HW_ => ?_)
            generalize wr.drew = w19 at HO_172002 BK162 BK163 BK171 HB GG18 HQ21 hf18_0 hx172_0 hx18_0 hHeld ⊢
            refine pure_ (i := 0) (N := some 18) (v := ?_) (a' := ?_) #[true, false, false, false, false, false, false, false, false, false, false, false, false, false, false, false, false, false, false, false, false] rfl rfl (any_of HT_.out (by kernel_rfl)) (fun _ _ _ h => h) (Or.inl ⟨by rfl, ?_⟩) ?_ ?_
            rotate_left
            · intro w'
              go_simp
              with_reducible rfl
            rotate_left
            · simp only [Act.put, List.setIfInBounds_toArray, List.set_cons_zero, List.set_cons_succ, i64_w, i32_w]
              rfl
            refine pure_ (i := 2) (N := some 20) (v := ?_) (a' := ?_) #[true, false, true, false, false, false, false, false, false, false, false, false, false, false, false, false, false, false, false, false, false] rfl rfl (any_of HT_.out (by kernel_rfl)) (fun _ _ _ h => h) (Or.inl ⟨by rfl, ?_⟩) ?_ ?_
            rotate_left
            · intro w'
              go_simp
              with_reducible rfl
            rotate_left
            · simp only [Act.put, List.setIfInBounds_toArray, List.set_cons_zero, List.set_cons_succ, i64_w, i32_w]
              rfl
            refine pure_ (i := 3) (N := some 21) (v := ?_) (a' := ?_) #[true, false, true, true, false, false, false, false, false, false, false, false, false, false, false, false, false, false, false, false, false] rfl rfl (any_of HT_.out (by kernel_rfl)) (fun _ _ _ h => h) (Or.inl ⟨by rfl, ?_⟩) ?_ ?_
            rotate_left
            · intro w'
              go_simp
              with_reducible rfl
            rotate_left
            · simp only [Act.put, List.setIfInBounds_toArray, List.set_cons_zero, List.set_cons_succ, i64_w, i32_w]
              rfl
            refine pure_ (i := 6) (N := some 24) (v := ?_) (a' := ?_) #[true, false, true, true, false, false, true, false, false, false, false, false, false, false, false, false, false, false, false, false, false] rfl rfl (any_of HT_.out (by kernel_rfl)) (fun _ _ _ h => h) (Or.inl ⟨by rfl, ?_⟩) ?_ ?_
            rotate_left
            · intro w'
              go_simp
              with_reducible rfl
            rotate_left
            · simp only [Act.put, List.setIfInBounds_toArray, List.set_cons_zero, List.set_cons_succ, i64_w, i32_w]
              rfl
            refine pure_ (i := 8) (N := some 26) (v := ?_) (a' := ?_) #[true, false, true, true, false, false, true, false, true, false, false, false, false, false, false, false, false, false, false, false, false] rfl rfl (any_of HT_.out (by kernel_rfl)) (fun _ _ _ h => h) (Or.inl ⟨by rfl, ?_⟩) ?_ ?_
            rotate_left
            · intro w'
              go_simp
              with_reducible rfl
            rotate_left
            · simp only [Act.put, List.setIfInBounds_toArray, List.set_cons_zero, List.set_cons_succ, i64_w, i32_w]
              rfl
            refine pure_ (i := 10) (N := some 28) (v := ?_) (a' := ?_) #[true, false, true, true, false, false, true, false, true, false, true, false, false, false, false, false, false, false, false, false, false] rfl rfl (any_of HT_.out (by kernel_rfl)) (fun _ _ _ h => h) (Or.inl ⟨by rfl, ?_⟩) ?_ ?_
            rotate_left
            · intro w'
              go_simp
              with_reducible rfl
            rotate_left
            · simp only [Act.put, List.setIfInBounds_toArray, List.set_cons_zero, List.set_cons_succ, i64_w, i32_w]
              rfl
            refine pure_ (i := 11) (N := some 29) (v := ?_) (a' := ?_) #[true, false, true, true, false, false, true, false, true, false, true, true, false, false, false, false, false, false, false, false, false] rfl rfl (any_of HT_.out (by kernel_rfl)) (fun _ _ _ h => h) (Or.inl ⟨by rfl, ?_⟩) ?_ ?_
            rotate_left
            · intro w'
              go_simp
              with_reducible rfl
            rotate_left
            · simp only [Act.put, List.setIfInBounds_toArray, List.set_cons_zero, List.set_cons_succ, i64_w, i32_w]
              rfl
            refine pure_ (i := 14) (N := some 32) (v := ?_) (a' := ?_) #[true, false, true, true, false, false, true, false, true, false, true, true, false, false, true, false, false, false, false, false, false] rfl rfl (any_of HT_.out (by kernel_rfl)) (fun _ _ _ h => h) (Or.inl ⟨by rfl, ?_⟩) ?_ ?_
            rotate_left
            · intro w'
              go_simp
              with_reducible rfl
            rotate_left
            · simp only [Act.put, List.setIfInBounds_toArray, List.set_cons_zero, List.set_cons_succ, i64_w, i32_w]
              rfl
            refine take_ (i := 1) (N := some 19) (v := ?_) (a' := ?_) #[true, true, true, true, false, false, true, false, true, false, true, true, false, false, true, false, false, false, false, false, false] rfl rfl (take_ofW HT_.out HW_.out (by kernel_rfl)) (fun _ _ _ h => h) (Or.inl ⟨by rfl, ?_⟩) hHeld ?_ ?_
            rotate_left
            · rintro w' ⟨s0, s1, s2, s3⟩
              go_simp
              with_reducible rfl
            rotate_left
            · simp only [Act.put, List.setIfInBounds_toArray, List.set_cons_zero, List.set_cons_succ, i64_w, i32_w]
              rfl
            refine take_ (i := 4) (N := some 22) (v := ?_) (a' := ?_) #[true, true, true, true, true, false, true, false, true, false, true, true, false, false, true, false, false, false, false, false, false] rfl rfl (take_ofW HT_.out HW_.out (by kernel_rfl)) (fun _ _ _ h => h) (Or.inl ⟨by rfl, ?_⟩) hHeld ?_ ?_
            rotate_left
            · rintro w' ⟨s0, s1, s2, s3⟩
              go_simp
              with_reducible rfl
            rotate_left
            · simp only [Act.put, List.setIfInBounds_toArray, List.set_cons_zero, List.set_cons_succ, i64_w, i32_w]
              rfl
            refine pure_ (i := 5) (N := some 23) (v := ?_) (a' := ?_) #[true, true, true, true, true, true, true, false, true, false, true, true, false, false, true, false, false, false, false, false, false] rfl rfl (any_of HT_.out (by kernel_rfl)) (fun _ _ _ h => h) (Or.inl ⟨by rfl, ?_⟩) ?_ ?_
            rotate_left
            · intro w'
              go_simp
              with_reducible rfl
            rotate_left
            · simp only [Act.put, List.setIfInBounds_toArray, List.set_cons_zero, List.set_cons_succ, i64_w, i32_w]
              rfl
            refine pure_ (i := 7) (N := some 25) (v := ?_) (a' := ?_) #[true, true, true, true, true, true, true, true, true, false, true, true, false, false, true, false, false, false, false, false, false] rfl rfl (any_of HT_.out (by kernel_rfl)) (fun _ _ _ h => h) (Or.inl ⟨by rfl, ?_⟩) ?_ ?_
            rotate_left
            · intro w'
              go_simp
              with_reducible rfl
            rotate_left
            · simp only [Act.put, List.setIfInBounds_toArray, List.set_cons_zero, List.set_cons_succ, i64_w, i32_w]
              rfl
            refine take_ (i := 9) (N := some 27) (v := ?_) (a' := ?_) #[true, true, true, true, true, true, true, true, true, true, true, true, false, false, true, false, false, false, false, false, false] rfl rfl (take_ofW HT_.out HW_.out (by kernel_rfl)) (fun _ _ _ h => h) (Or.inl ⟨by rfl, ?_⟩) hHeld ?_ ?_
            rotate_left
            · rintro w' ⟨s0, s1, s2, s3⟩
              go_simp
              with_reducible rfl
            rotate_left
            · simp only [Act.put, List.setIfInBounds_toArray, List.set_cons_zero, List.set_cons_succ, i64_w, i32_w]
              rfl
            refine take_ (i := 12) (N := some 30) (v := ?_) (a' := ?_) #[true, true, true, true, true, true, true, true, true, true, true, true, true, false, true, false, false, false, false, false, false] rfl rfl (take_ofW HT_.out HW_.out (by kernel_rfl)) (fun _ _ _ h => h) (Or.inl ⟨by rfl, ?_⟩) hHeld ?_ ?_
            rotate_left
            · rintro w' ⟨s0, s1, s2, s3⟩
              go_simp
              with_reducible rfl
            rotate_left
            · simp only [Act.put, List.setIfInBounds_toArray, List.set_cons_zero, List.set_cons_succ, i64_w, i32_w]
              rfl
            refine pure_ (i := 13) (N := some 31) (v := ?_) (a' := ?_) #[true, true, true, true, true, true, true, true, true, true, true, true, true, true, true, false, false, false, false, false, false] rfl rfl (any_of HT_.out (by kernel_rfl)) (fun _ _ _ h => h) (Or.inl ⟨by rfl, ?_⟩) ?_ ?_
            rotate_left
            · intro w'
              go_simp
              with_reducible rfl
            rotate_left
            · simp only [Act.put, List.setIfInBounds_toArray, List.set_cons_zero, List.set_cons_succ, i64_w, i32_w]
              rfl
            refine pure_ (i := 15) (N := some 33) (v := ?_) (a' := ?_) #[true, true, true, true, true, true, true, true, true, true, true, true, true, true, true, true, false, false, false, false, false] rfl rfl (any_of HT_.out (by kernel_rfl)) (fun _ _ _ h => h) (Or.inl ⟨by rfl, ?_⟩) ?_ ?_
            rotate_left
            · intro w'
              go_simp
              with_reducible rfl
            rotate_left
            · simp only [Act.put, List.setIfInBounds_toArray, List.set_cons_zero, List.set_cons_succ, i64_w, i32_w]
              rfl
            refine pure_ (i := 16) (N := some 34) (v := ?_) (a' := ?_) #[true, true, true, true, true, true, true, true, true, true, true, true, true, true, true, true, true, false, false, false, false] rfl rfl (any_of HT_.out (by kernel_rfl)) (fun _ _ _ h => h) (Or.inl ⟨by rfl, ?_⟩) ?_ ?_
            rotate_left
            · intro w'
              go_simp
              with_reducible rfl
            rotate_left
            · simp only [Act.put, List.setIfInBounds_toArray, List.set_cons_zero, List.set_cons_succ, i64_w, i32_w]
              rfl
            refine take_ (i := 17) (N := some 35) (v := ?_) (a' := ?_) #[true, true, true, true, true, true, true, true, true, true, true, true, true, true, true, true, true, true, false, false, false] rfl rfl (take_ofW HT_.out HW_.out (by kernel_rfl)) (fun _ _ _ h => h) (Or.inl ⟨by rfl, ?_⟩) hHeld ?_ ?_
            rotate_left
            · rintro w' ⟨s0, s1, s2, s3⟩
              go_simp
              with_reducible rfl
            rotate_left
            · simp only [Act.put, List.setIfInBounds_toArray, List.set_cons_zero, List.set_cons_succ, i64_w, i32_w]
              rfl
            refine pure_ (i := 18) (N := some 36) (v := ?_) (a' := ?_) #[true, true, true, true, true, true, true, true, true, true, true, true, true, true, true, true, true, true, true, false, false] rfl rfl (any_of HT_.out (by kernel_rfl)) (fun _ _ _ h => h) (Or.inl ⟨by rfl, ?_⟩) ?_ ?_
            rotate_left
            · intro w'
              go_simp
              with_reducible rfl
            rotate_left
            · simp only [Act.put, List.setIfInBounds_toArray, List.set_cons_zero, List.set_cons_succ, i64_w, i32_w]
              rfl
            refine pure_ (i := 19) (N := some 37) (v := ?_) (a' := ?_) #[true, true, true, true, true, true, true, true, true, true, true, true, true, true, true, true, true, true, true, true, false] rfl rfl (any_of HT_.out (by kernel_rfl)) (fun _ _ _ h => h) (Or.inl ⟨by rfl, ?_⟩) ?_ ?_
            rotate_left
            · intro w'
              go_simp
              with_reducible rfl
            rotate_left
            · simp only [Act.put, List.setIfInBounds_toArray, List.set_cons_zero, List.set_cons_succ, i64_w, i32_w]
              rfl
            refine last_ (i := 20) (N := none) #[true, true, true, true, true, true, true, true, true, true, true, true, true, true, true, true, true, true, true, true, true] rfl rfl (one_of HT_.out (by kernel_rfl)) (by decide) (fun K hK => ?_)
            refine skip_ (w1 := ?_) (by rfl) rfl ?_ ?_
            rotate_left
            · go_simp
              rfl
            refine hK.out _ _ ?_
            clear hK K
            refine done_ (done_of HT_.out (by kernel_rfl)) ?_
            try go_wp2
            go_roundg k1
            case measure => have := HK1.out; omega
            case rel => exact ⟨(wrap64 (x15_1 + 1)), (y173), (.slice (some ⟨go18, 0, none⟩) x172002_1.length co20), (by first | rfl | (simp; done) | (simp [*]; done)), H', ⟨by have := HK1.out; omega⟩, ⟨by (with_reducible repeat (first | apply Kd.R_alloc | apply Kd.R_drewN | apply Kd.R_drew)); exact HQ21.out⟩, ⟨by (with_reducible repeat (first | refine blk_drewN ?_ _ | refine blk_drew ?_ | refine blk_alloc ?_ _)); refine blk_far ?_ (by have h_ := Kd.R_ne HO_172002.out BK162.out (by decide); intro e_; exact h_ (by rw [e_]; rfl)) _; (with_reducible repeat (first | refine blk_drewN ?_ _ | refine blk_drew ?_ | refine blk_alloc ?_ _)); exact BK162.out⟩, ⟨by (with_reducible repeat (first | refine blk_drewN ?_ _ | refine blk_drew ?_ | refine blk_alloc ?_ _)); refine blk_far ?_ (by have h_ := Kd.R_ne HO_172002.out BK163.out (by decide); intro e_; exact h_ (by rw [e_]; rfl)) _; (with_reducible repeat (first | refine blk_drewN ?_ _ | refine blk_drew ?_ | refine blk_alloc ?_ _)); exact BK163.out⟩, ⟨by (with_reducible repeat (first | refine blk_drewN ?_ _ | refine blk_drew ?_ | refine blk_alloc ?_ _)); refine blk_far ?_ (by have h_ := Kd.R_ne HO_172002.out BK171.out (by decide); intro e_; exact h_ (by rw [e_]; rfl)) _; (with_reducible repeat (first | refine blk_drewN ?_ _ | refine blk_drew ?_ | refine blk_alloc ?_ _)); exact BK171.out⟩, ⟨by repeat (first | (with_reducible first | exact HB.out | apply below_alloc | apply pw_below_drewN | apply below_drew1 | refine below_set ?_ GB18.out | refine below_set ?_ GE162.out | refine below_set ?_ GE163.out | refine below_set ?_ GE171.out) | exact HB.out)⟩⟩
          · rw [if_neg c16] at H
            exact absurd H (by simp)
        · rw [if_neg c15] at H
          exact absurd H (by simp)
      · rw [if_neg c13] at H
        have c13b0 : decide (x15_1 < t164) = false := decide_eq_false c13
        clear c13
        simp only [Option.some.injEq, Prod.mk.injEq] at H
        obtain ⟨rfl, rfl, rfl⟩ := H
        have hnb22 := NB171_162.out
        have hnc22 := NB162_171.out
        have hnb23 := NB171_163.out
        have hnc23 := NB163_171.out
        have hcz24_0 : wr.cell? ⟨gb171, 0, none⟩ = some (.int .i64 t164) := (blk_cell BK171.out 0).trans rfl
        have hcz24_1 : wr.cell? ⟨gb171, 1, none⟩ = some (.int .i64 t165) := (blk_cell BK171.out 1).trans rfl
        have hcz24_2 : wr.cell? ⟨gb171, 2, none⟩ = some (u172002) := (blk_cell BK171.out 2).trans rfl
        have hfz24_0 := blk_frozen BK171.out 0
        have hfz24_1 := blk_frozen BK171.out 1
        have hfz24_2 := blk_frozen BK171.out 2
        have hnb25 := NB163_162.out
        have hnc25 := NB162_163.out
        have hcz26_0 : wr.cell? ⟨gb163, 0, none⟩ = some (.int .i64 0) := (blk_cell BK163.out 0).trans rfl
        have hcz26_1 : wr.cell? ⟨gb163, 1, none⟩ = some (.int .i64 0) := (blk_cell BK163.out 1).trans rfl
        have hcz26_2 : wr.cell? ⟨gb163, 2, none⟩ = some (.slice none 0 0) := (blk_cell BK163.out 2).trans rfl
        have hfz26_0 := blk_frozen BK163.out 0
        have hfz26_1 := blk_frozen BK163.out 1
        have hfz26_2 := blk_frozen BK163.out 2
        obtain ⟨Ao27, co27, eo27⟩ := Kd.R_slice HO_172002.out
        subst eo27
        go_wp2
        refine bodyPost_ret (results_cell_row rfl _ _ gb163 26 #[.int .i64 t164, .int .i64 t165, .slice Ao27 x172002_1.length co27] (0, 0) _ rfl (by (with_reducible repeat (first | refine blk_drewN ?_ _ | refine blk_drew ?_ | refine blk_alloc ?_ _)); refine blk_put (cs := #[.int .i64 t164, .int .i64 t165, .slice none 0 0]) ?_ 2 _ rfl; (with_reducible repeat (first | refine blk_drewN ?_ _ | refine blk_drew ?_ | refine blk_alloc ?_ _)); refine blk_put (cs := #[.int .i64 t164, .int .i64 0, .slice none 0 0]) ?_ 1 _ rfl; (with_reducible repeat (first | refine blk_drewN ?_ _ | refine blk_drew ?_ | refine blk_alloc ?_ _)); refine blk_put (cs := #[.int .i64 0, .int .i64 0, .slice none 0 0]) ?_ 0 _ rfl; (with_reducible repeat (first | refine blk_drewN ?_ _ | refine blk_drew ?_ | refine blk_alloc ?_ _)); exact BK163.out) Try.underlying26 rfl (by kernel_rfl)) rfl ?_
        exact ⟨_, by first | rfl | (simp [errW_none, errW_some] <;> rfl) | (simp [*, errW_none, errW_some] <;> rfl), by (with_reducible repeat (first | apply Kd.R_alloc | apply Kd.R_drewN | apply Kd.R_drew)); exact Kd.R_mono (Kd.R_far (p := ⟨gb163, 2, none⟩) (Kd.R_far (p := ⟨gb163, 1, none⟩) (Kd.R_far (p := ⟨gb163, 0, none⟩) (Kd.R_types HO_172002.out BK163.out (by decide)) (fun _ hk => hk.2) (.int .i64 t164)) (fun _ hk => hk.2) (.int .i64 t165)) (fun _ hk => hk.2) (.slice Ao27 x172002_1.length co27)) (fun _ hk => trivial), by repeat (first | (with_reducible first | exact HB.out | apply below_alloc | apply pw_below_drewN | apply below_drew1 | refine below_set ?_ GE162.out | refine below_set ?_ GE163.out | refine below_set ?_ GE171.out) | exact HB.out)⟩

-- function 47: in PQ (KJ)

-- function 95: bits_Len64: in PQ

-- function 93: bits_LeadingZeros64: in PQ

-- function 88: bits_Div64: in PQ

-- function 67: qfix_Div: in PQ

-- function 96: bits_Mul32: in PQ

-- function 94: bits_Mul: in PQ

-- NOT PRINTED: function 90 (api_Q_90)

-- function 70: in PQ (KJ)

-- function 71: in PQ (KJ)

-- NOT PRINTED: function 36 (kalman_work_taken)

-- NOT PRINTED: function 13 (kalman_Update)

-- NOT PRINTED: function 11 (alidadelaw05_shown)

-- NOT PRINTED: function 3 (alidadelaw05_KalmanSure)

-- function 37: alidaderef01_In: in PQ

-- function 14: alidaderef03_Right: in PQ

-- function 17: alidaderef05_Right: in PQ

-- function 19: alidaderef03_Same: in PQ

-- function 16: alidaderef03_None: in PQ

-- function 42: alidaderef03_Diag: in PQ

-- function 20: alidaderef05_New: in PQ

-- function 21: alidaderef05_Same: in PQ

-- function 81: alidaderef01_Half: in PQ

-- function 43: alidaderef03_Even: in PQ

-- function 22: alidaderef05_Good: in PQ

-- function 23: kalman_Same: in PQ

-- NOT PRINTED: function 6 (alidadelaw05_KalmanMakes)

-- NOT PRINTED: function 5 (alidadelaw05_KalmanGoods)

end Go.Proofs.Ytninmcmajbfccaa.PR

/- Layer 5: what is reckoned, and whether a call told so. -/
namespace Go.Proofs.Ytninmcmajbfccaa.PR
open Go.RowKit Go.Proofs.Ytninmcmajbfccaa.PQ Go.Proofs.YtninmcmajbfccaaW.PrintWords Go.Proofs.YtninmcmajbfccaaW.PrintLast Go.Proofs.YtninmcmajbfccaaW.PrintMore Go.Proofs.Ytninmcmajbfccaa.KK
set_option linter.unusedVariables false
set_option linter.unusedSimpArgs false
theorem _root_.Go.Proofs.Ytninmcmajbfccaa.KK.Rd.touch {w w' : World} {A : Option Addr} {l : List Int} {g : Nat} (h : Rd w A l) (hg : w.grownBy w' (some g)) (hne : ∀ ad, A = some ad → 0 < l.length → ad.block ≠ g) : Rd w' A l := by
  refine ⟨h.1, h.2.1, fun hp => ?_⟩
  obtain ⟨ad, e, hc⟩ := h.2.2 hp
  refine ⟨ad, e, fun j p hj => ?_⟩
  obtain ⟨c, h1, h2, h3⟩ := hc j p hj
  refine ⟨c, h1, h2, fun i u hi => ?_⟩
  have hx := h3 i u hi
  have hb : (ad.add (j * (Kd.int .i64).sz + i)).block = ad.block := block_of_add _ _
  have hlt := cell_lt hx
  rw [hb] at hlt
  have hk := hg.block ad.block hlt (fun e' => hne ad e hp (by injection e'))
  rw [← hx]
  unfold World.cell?
  rw [hb, hk]
theorem _root_.Go.Proofs.Ytninmcmajbfccaa.KK.Own.touch {w w' : World} {base g : Nat} {v : Value} {l : List Int} (h : Own w base v l) (hg : w.grownBy w' (some g)) (hb : g < base) : Own w' base v l :=
  Own.of_row (own_move h.row fun k hk => hg.block k (h.row.lt k hk).2 (fun e => by have := (h.row.lt k hk).1; injection e with e; omega))
/-- blocks of a call's own, and of the others but one is written -/
structure Sg (w0 : World) (g : Nat) (L : List (TypeId × Array Value)) (w : World) : Prop where
  rows : KK.Rows w w0.heap.size L
  gr : w0.grownBy w (some g)
section
variable {w w' w0 : World} {g : Nat} {L : List (TypeId × Array Value)}
theorem Sg.of (h : Scene w0 L w) : Sg w0 g L w := ⟨h.rows, KK.grown_of_below h.be _⟩
theorem Sg.below (h : Sg w0 g L w) (hb : Below w.heap.size w w') : Sg w0 g L w' := ⟨h.rows.below hb, grown_trans h.gr (KK.grown_of_below hb _)⟩
theorem Sg.alloc (h : Sg w0 g L w) (o : Obj) : Sg w0 g L (w.alloc o) := h.below ((Below.refl _ _).alloc (Nat.le_refl _) o)
theorem Sg.drew (h : Sg w0 g L w) : Sg w0 g L w.drew := h.below (Below.refl _ _).drew
theorem Sg.touch (h : Sg w0 g L w) (hg : w.grownBy w' (some g)) (hlt : g < w0.heap.size) : Sg w0 g L w' :=
  ⟨h.rows.imp fun k t cs hk _ r => r.grown hg (fun e => by injection e with e; omega), grown_trans h.gr hg⟩
variable {x0 x1 x2 x3 x4 x5 : TypeId × Array Value}
theorem Sg.r0 (h : Sg w0 g (x0 :: L) w) : Row w w0.heap.size x0.1 x0.2 := h.rows.1
theorem Sg.r1 (h : Sg w0 g (x0 :: x1 :: L) w) : Row w (w0.heap.size + 1) x1.1 x1.2 := h.rows.2.1
theorem Sg.r2 (h : Sg w0 g (x0 :: x1 :: x2 :: L) w) : Row w (w0.heap.size + 1 + 1) x2.1 x2.2 := h.rows.2.2.1
theorem Sg.r3 (h : Sg w0 g (x0 :: x1 :: x2 :: x3 :: L) w) : Row w (w0.heap.size + 1 + 1 + 1) x3.1 x3.2 := h.rows.2.2.2.1
end
set_option maxRecDepth 100000 in
set_option maxHeartbeats 4000000 in
theorem one34 (g : Nat) (s o : Bool) (q : Int) (w : World) (R : Row w g 77 #[.bool s]) :
    Calls Try.prog 34 #[.pointer (some ⟨g, 0, none⟩), I q, .bool o] w fun e w' => e = .returned (I q) ∧ Row w' g 77 #[.bool (s || o)] ∧ w.grownBy w' (some g) := by
  have x := R.cell
  have f := R.free
  have HR := Lib.hid (R.set 0 (.bool (s || o)))
  have HG : Hid (w.grownBy (w.setCell ⟨g, 0, none⟩ (.bool (s || o))) (some g)) := Lib.hid ⟨rfl, rfl, rfl, by simp, fun k hk hne => Below.heap_setCell w _ _ k (fun e => hne (by rw [e]))⟩
  clear R
  cases s
  all_goals
    go_enter Try.func34, Try.ntmps34
    go_wp2
    go_ret
    exact ⟨rfl, by simpa using HR.out, by simpa using HG.out⟩
theorem set_grown (w : World) (g j : Nat) (u : Value) : w.grownBy (w.setCell ⟨g, j, none⟩ u) (some g) := ⟨rfl, rfl, rfl, by simp, fun k hk hne => Below.heap_setCell w _ _ k (fun e => hne (by rw [e]))⟩
theorem mat45_end (g : Nat) (s u : Bool) (X : Array Value) (w : World) (R : Row w g 77 #[.bool s]) (W : World) (hW : W = ((w.setCell ⟨g, 0, none⟩ (.bool u)).alloc (.cells X 26)).alloc (.cells X 26)) :
    Row W (w.heap.size + 1) 26 X ∧ Row W g 77 #[.bool u] ∧ w.grownBy W (some g) := by
  subst hW
  refine ⟨?_, ?_, ?_⟩
  · have := Row.new ((w.setCell ⟨g, 0, none⟩ (.bool u)).alloc (.cells X 26)) 26 X
    simpa using this
  · exact ((R.set 0 (.bool u)).alloc _).alloc _
  · exact grown_trans (set_grown w g 0 _) (KK.grown_of_below (((Below.refl _ _).alloc (Nat.le_refl _) _).alloc (by simp) _) _)
set_option maxRecDepth 100000 in
set_option maxHeartbeats 4000000 in
theorem mat45 (g : Nat) (s o : Bool) (a b c : Int) (A : Option Addr) (n cp : Nat) (w : World) (R : Row w g 77 #[.bool s]) :
    Calls Try.prog 45 #[.pointer (some ⟨g, 0, none⟩), .agg #[I a, I b, .slice A n cp], .bool o, I c] w fun e w' => e = .returned (.agg #[I a, I b, .slice A n cp]) ∧ Row w' g 77 #[.bool (s || o)] ∧ w.grownBy w' (some g) := by
  have hg := R.lt
  have E := Lib.hid (fun u W h => mat45_end g s u #[I a, I b, .slice A n cp] w R W h)
  have x := R.cell
  have f := R.free
  clear R
  cases s
  all_goals
    go_enter Try.func45, Try.ntmps45
    go_wp2
    first
      | exact bodyPost_ret (res3 rfl rfl (E.out o _ rfl).1) rfl ⟨rfl, (E.out o _ rfl).2.1, (E.out o _ rfl).2.2⟩
      | exact bodyPost_ret (res3 rfl rfl (E.out true _ rfl).1) rfl ⟨rfl, (E.out true _ rfl).2.1, (E.out true _ rfl).2.2⟩
end Go.Proofs.Ytninmcmajbfccaa.PR

/- Layer 5: how far a measured number is off. -/
namespace Go.Proofs.Ytninmcmajbfccaa.PR
open Go.RowKit Go.Proofs.Ytninmcmajbfccaa.PQ Go.Proofs.YtninmcmajbfccaaW.PrintWords Go.Proofs.YtninmcmajbfccaaW.PrintLast Go.Proofs.YtninmcmajbfccaaW.PrintMore Go.Proofs.Ytninmcmajbfccaa.KK
set_option linter.unusedVariables false
set_option linter.unusedSimpArgs false
theorem row_of_S {w0 w : World} {g : Nat} {s : Bool} (h : IsS77 w0 w g s) : Row w g 77 #[.bool s] := h.1
theorem grown_of {w0 w w' : World} {g : Nat} (hB : Below w0.heap.size w0 w) (hB' : Below w0.heap.size w0 w') (hk : KeepBut w w' g none) : w.grownBy w' (some g) :=
  ⟨hB'.os.trans hB.os.symm, hB'.tape.trans hB.tape.symm, hB'.output.trans hB.output.symm, hk.1, fun k hk' hne => hk.2 k hk' (fun e => hne (by rw [e])) (by simp)⟩
theorem below_of {w0 w w' : World} {g : Nat} (hB : Below w0.heap.size w0 w) (hg : w0.heap.size ≤ g) (h : w.grownBy w' (some g)) : Below w0.heap.size w0 w' :=
  ⟨h.os.trans hB.os, h.tape.trans hB.tape, h.output.trans hB.output, Nat.le_trans hB.size h.size, fun k hk => (h.block k (Nat.lt_of_lt_of_le hk hB.size) (fun e => by injection e with e; omega)).trans (hB.block k hk)⟩
theorem keep_of {w w' : World} {g : Nat} (h : w.grownBy w' (some g)) : KeepBut w w' g none := ⟨h.size, fun k hk hne _ => h.block k hk (fun e => hne (by injection e))⟩
theorem between48 (w0 w : World) (g : Nat) (s : Bool) (a1_0 a1_1 : Int) (A1 : Option Addr) (c1 : Nat) (l1 : List Int) (a2_0 a2_1 : Int) (A2 : Option Addr) (c2 : Nat) (l2 : List Int) (r1 r2 : Int) (r3 : List Int) (r4 : Bool)
    (R : Row w g 77 #[.bool s]) (hg : w0.heap.size ≤ g) (hB : Below w0.heap.size w0 w) (h1 : Rd w A1 l1) (hc1 : l1.length ≤ c1) (hf1 : ∀ ad, A1 = some ad → 0 < l1.length → ad.block ≠ g) (h2 : Rd w A2 l2) (hc2 : l2.length ≤ c2) (hf2 : ∀ ad, A2 = some ad → 0 < l2.length → ad.block ≠ g)
    (h : kalman_work_between.f s a1_0 a1_1 l1 a2_0 a2_1 l2 = some (r1, r2, r3, r4)) :
    Calls Try.prog 48 #[.pointer (some ⟨g, 0, none⟩), .agg #[I a1_0, I a1_1, .slice A1 l1.length c1], .agg #[I a2_0, I a2_1, .slice A2 l2.length c2]] w fun e w' => ∃ A c, e = .returned (.agg #[I r1, I r2, .slice A r3.length c]) ∧ Own w' w.heap.size (.slice A r3.length c) r3 ∧ Row w' g 77 #[.bool r4] ∧ w.grownBy w' (some g) := by
  refine (kalman_work_between.calls g s a1_0 a1_1 A1 c1 l1 a2_0 a2_1 A2 c2 l2 r1 r2 r3 r4 w0 w ⟨R, hg⟩ hB h1 hc1 hf1 h2 hc2 hf2 h).mono ?_
  rintro e w' ⟨v, rfl, ho, hI, hb, hk⟩
  obtain ⟨A, c, rfl, _, _⟩ := Own.reads ho
  exact ⟨A, c, rfl, ho, hI.1, grown_of hB hb hk⟩
theorem Own.first {w : World} {base : Nat} {A : Option Addr} {c : Nat} {l : List Int} (h : Own w base (.slice A l.length c) l) (hp : 0 < l.length) : ∃ b off, A = some ⟨b, off, none⟩ ∧ w.cell? ⟨b, off, none⟩ = some (I (l.getD 0 0)) ∧ base ≤ b := by
  obtain ⟨A', c', he, _, hr⟩ := Own.reads h
  injection he with e1 _ _
  subst e1
  obtain ⟨b, off, rfl, _, hc⟩ := hr.cells hp
  refine ⟨b, off, rfl, ?_, ?_⟩
  · have := hc 0 _ (getD_of hp)
    simpa using this
  · exact (h.row.lt b rfl).1
theorem field2 (a b : Int) (A : Option Addr) (n c : Nat) (w : World) : (Instr.field 26 (.agg #[.int .i64 a, .int .i64 b, .slice A n c]) 2).run Try.prog w = .ok (.slice A n c) w := by
  have hu := Try.underlying26
  have hk : Try.prog.cellsOf 24 = 1 := by kernel_rfl
  simp [Instr.field, go_sem, hu, hk, asAgg]
def kalman_work_innov.f (s0_0 : Bool) (a1_0 : Int) (a1_1 : Int) (l1_2 : List Int) (a1_3 : Int) (a1_4 : Int) (l1_5 : List Int) (a2_0 : Int) (a2_1 : Int) (l2_2 : List Int) (a3 : Int) (a4 : Int) : Option (Int × Int × Bool) :=
  (mat_Mul.f a2_0 a2_1 l2_2 a1_0 a1_1 l1_2).bind fun m => if 0 < m.2.2.1.length then
    ((kalman_work_between.f (s0_0 || m.2.2.2.1 || (subZ a3 (m.2.2.1.getD 0 0)).2) a2_0 a2_1 l2_2 a1_3 a1_4 l1_5).bind fun b => if 0 < b.2.2.1.length then some ((subZ a3 (m.2.2.1.getD 0 0)).1, (addZ (b.2.2.1.getD 0 0) a4).1, b.2.2.2 || (addZ (b.2.2.1.getD 0 0) a4).2) else none) else none
set_option maxRecDepth 100000 in
set_option maxHeartbeats 8000000 in
theorem kalman_work_innov.calls (g : Nat) (s0_0 : Bool) (a1_0 : Int) (a1_1 : Int) (A1_2 : Option Addr) (c1_2 : Nat) (l1_2 : List Int) (a1_3 : Int) (a1_4 : Int) (A1_5 : Option Addr) (c1_5 : Nat) (l1_5 : List Int) (a2_0 : Int) (a2_1 : Int) (A2_2 : Option Addr) (c2_2 : Nat) (l2_2 : List Int) (a3 : Int) (a4 : Int) (r1 : Int) (r2 : Int) (r3 : Bool) (w0 w : World) (hI : IsS77 w0 w g s0_0) (hB : Below w0.heap.size w0 w)
    (hr1_2 : Kd.C (Kd.int .i64) w A1_2 l1_2.length l1_2) (hc1_2 : l1_2.length ≤ c1_2) (hf1_2 : ∀ ad, A1_2 = some ad → 0 < l1_2.length → ad.block ≠ g) (hr1_5 : Kd.C (Kd.int .i64) w A1_5 l1_5.length l1_5) (hc1_5 : l1_5.length ≤ c1_5) (hf1_5 : ∀ ad, A1_5 = some ad → 0 < l1_5.length → ad.block ≠ g) (hr2_2 : Kd.C (Kd.int .i64) w A2_2 l2_2.length l2_2) (hc2_2 : l2_2.length ≤ c2_2) (hf2_2 : ∀ ad, A2_2 = some ad → 0 < l2_2.length → ad.block ≠ g)
    (h : kalman_work_innov.f s0_0 a1_0 a1_1 l1_2 a1_3 a1_4 l1_5 a2_0 a2_1 l2_2 a3 a4 = some (r1, r2, r3)) :
    Calls Try.prog 33 #[.pointer (some ⟨g, 0, none⟩), .agg #[.int .i64 a1_0, .int .i64 a1_1, .slice A1_2 l1_2.length c1_2, .int .i64 a1_3, .int .i64 a1_4, .slice A1_5 l1_5.length c1_5], .agg #[.int .i64 a2_0, .int .i64 a2_1, .slice A2_2 l2_2.length c2_2], .int .i64 a3, .int .i64 a4] w fun e w' => e = .returned (.tuple #[.int .i64 r1, .int .i64 r2]) ∧ IsS77 w0 w' g r3 ∧ Below w0.heap.size w0 w' ∧ KeepBut w w' g none := by
  unfold kalman_work_innov.f at h
  obtain ⟨⟨m1, m2, lm, fm, em⟩, hm, h⟩ := Option.bind_eq_some_iff.1 h
  dsimp only at h
  split at h
  case isFalse => cases h
  rename_i hp
  obtain ⟨⟨b1, b2, lb, fb⟩, hbt, h⟩ := Option.bind_eq_some_iff.1 h
  dsimp only at h
  split at h
  case isFalse => cases h
  rename_i hp2
  simp only [Option.some.injEq, Prod.mk.injEq] at h
  obtain ⟨rfl, rfl, rfl⟩ := h
  have hgl := (row_of_S hI).lt
  have N : Hid (Sg w g [(28, #[I a1_0, I a1_1, .slice A1_2 l1_2.length c1_2, I a1_3, I a1_4, .slice A1_5 l1_5.length c1_5]), (26, #[I a2_0, I a2_1, .slice A2_2 l2_2.length c2_2])] ((w.alloc (.cells #[I a1_0, I a1_1, .slice A1_2 l1_2.length c1_2, I a1_3, I a1_4, .slice A1_5 l1_5.length c1_5] 28)).alloc (.cells #[I a2_0, I a2_1, .slice A2_2 l2_2.length c2_2] 26))) := Lib.hid (Sg.of (((Scene.none w).push (by simp) _ _).push (by simp) _ _))
  have R := Lib.hid (((row_of_S hI).alloc (.cells #[I a1_0, I a1_1, .slice A1_2 l1_2.length c1_2, I a1_3, I a1_4, .slice A1_5 l1_5.length c1_5] 28)).alloc (.cells #[I a2_0, I a2_1, .slice A2_2 l2_2.length c2_2] 26))
  have HG := Lib.hid hI.2
  have HB := Lib.hid hB
  have C1 := Lib.hid hc1_2
  have C5 := Lib.hid hc1_5
  have C2 := Lib.hid hc2_2
  have T1 := Lib.hid (fun w' (h : w.grownBy w' (some g)) => Rd.touch hr1_2 h hf1_2)
  have T5 := Lib.hid (fun w' (h : w.grownBy w' (some g)) => Rd.touch hr1_5 h hf1_5)
  have T2 := Lib.hid (fun w' (h : w.grownBy w' (some g)) => Rd.touch hr2_2 h hf2_2)
  have F2 := Lib.hid hf2_2
  have F5 := Lib.hid hf1_5
  have HM := Lib.hid hm
  have HBT := Lib.hid hbt
  have P1 := Lib.hid hp
  have P2 := Lib.hid hp2
  have GL := Lib.hid hgl
  clear hI hB hr1_2 hc1_2 hf1_2 hr1_5 hc1_5 hf1_5 hr2_2 hc2_2 hf2_2 hm hbt hp hp2 hgl
  obtain ⟨z, hz⟩ : ∃ z, subZ a3 (lm.getD 0 0) = z := ⟨_, rfl⟩
  obtain ⟨y, hy⟩ : ∃ y, addZ (lb.getD 0 0) a4 = y := ⟨_, rfl⟩
  rw [hz] at HBT ⊢
  rw [hy]
  have HZ := Lib.hid hz
  have HY := Lib.hid hy
  clear hz hy
  obtain ⟨z1, z2⟩ := z
  obtain ⟨y1, y2⟩ := y
  dsimp only at HBT ⊢
  have hmf := KK.hmf
  have hfd := field2
  go_enter Try.func33, Try.ntmps33
  go_wp2_with fail
  refine (mat_Mul.calls a2_0 a2_1 A2_2 c2_2 l2_2 a1_0 a1_1 A1_2 c1_2 l1_2 m1 m2 lm fm em _ (T2.out _ N.out.gr) C2.out (T1.out _ N.out.gr) C1.out HM.out).mono ?_
  rintro e w2 ⟨v, rfl, ho, hb⟩
  obtain ⟨Am, cm, rfl, _, _⟩ := Own.reads ho
  have O := Lib.hid ho
  have N2 := Lib.hid (N.out.below hb)
  have R2 := Lib.hid (R.out.below hb R.out.lt)
  clear ho hb
  go_wp2_with fail
  refine (mat45 g s0_0 fm m1 m2 em Am lm.length cm w2 R2.out).mono ?_
  rintro e w3 ⟨rfl, hr3, hg3⟩
  have O3 := Lib.hid (Own.touch O.out hg3 (by have := GL.out; simp; omega))
  have N3 := Lib.hid (N2.out.touch hg3 GL.out)
  have R3 := Lib.hid hr3
  clear hr3 hg3
  obtain ⟨bm, om, rfl, x, _⟩ := Own.first O3.out P1.out
  have hlm : (0 : Int) < lm.length := by have := P1.out; omega
  go_wp2_with fail
  refine (sub_calls a3 (lm.getD 0 0) w3).mono ?_
  rw [HZ.out]
  rintro e w4 ⟨rfl, hb⟩
  have N4 := Lib.hid (N3.out.below hb)
  have R4 := Lib.hid (R3.out.below hb R3.out.lt)
  clear hb x
  go_wp2_with fail
  refine (one34 g (s0_0 || fm) z2 z1 w4 R4.out).mono ?_
  rintro e w5 ⟨rfl, hr5, hg5⟩
  have N5 := Lib.hid (N4.out.touch hg5 GL.out)
  have R5 := Lib.hid hr5
  clear hr5 hg5
  have x0 := N5.out.r0.cell
  have x1 := N5.out.r1.cell
  go_wp2_with fail
  refine (between48 w0 w5 g _ a2_0 a2_1 A2_2 c2_2 l2_2 a1_3 a1_4 A1_5 c1_5 l1_5 b1 b2 lb fb R5.out HG.out (below_of HB.out HG.out N5.out.gr) (T2.out _ N5.out.gr) C2.out F2.out (T5.out _ N5.out.gr) C5.out F5.out HBT.out).mono ?_
  rintro e w6 ⟨Ab, cb, rfl, ho, hr6, hg6⟩
  have N6 := Lib.hid (N5.out.touch hg6 GL.out)
  have R6 := Lib.hid hr6
  obtain ⟨bb, ob, rfl, x, _⟩ := Own.first ho P2.out
  have hlb : (0 : Int) < lb.length := by have := P2.out; omega
  clear hr6 hg6 ho x0 x1 hlm
  go_wp2_with fail
  refine (add_calls (lb.getD 0 0) a4 w6).mono ?_
  rw [HY.out]
  rintro e w7 ⟨rfl, hb⟩
  have N7 := Lib.hid (N6.out.below hb)
  have R7 := Lib.hid (R6.out.below hb R6.out.lt)
  clear hb x
  go_wp2_with fail
  refine (one34 g fb y2 y1 w7 R7.out).mono ?_
  rintro e w8 ⟨rfl, hr8, hg8⟩
  have N8 := Lib.hid (N7.out.touch hg8 GL.out)
  have R8 := Lib.hid hr8
  clear hr8 hg8
  go_wp2
  go_ret2
  exact ⟨rfl, ⟨R8.out, HG.out⟩, below_of HB.out HG.out N8.out.gr, keep_of N8.out.gr⟩
end Go.Proofs.Ytninmcmajbfccaa.PR

/- Layer 5: a track behind a measured number. -/
namespace Go.Proofs.Ytninmcmajbfccaa.PR
open Go.RowKit Go.Proofs.Ytninmcmajbfccaa.PQ Go.Proofs.YtninmcmajbfccaaW.PrintWords Go.Proofs.YtninmcmajbfccaaW.PrintLast Go.Proofs.YtninmcmajbfccaaW.PrintMore Go.Proofs.Ytninmcmajbfccaa.KK
set_option linter.unusedVariables false
set_option linter.unusedSimpArgs false
theorem div_calls (a b : Int) (w : World) : Calls Try.prog 67 #[I a, I b] w fun e w' => e = .returned (.tuple #[I (dvs a b).1, .bool (dvs a b).2]) ∧ Below w.heap.size w w' := by
  obtain ⟨k, hk⟩ := div_f a b
  exact qfix_Div.calls k a b _ _ w (hk k (Nat.le_refl _))
def goodTo (n : Nat) (L : List Int) : Nat → List Int
  | 0 => L
  | j + 1 => (goodTo n L j).set (j * n + j) (mx (rd (goodTo n L j) (((j * n + j : Nat)) : Int)) 0)
def goodL (n : Nat) (l : List Int) : List Int := goodTo n (evenL n l) n
theorem goodTo_length (n : Nat) (L : List Int) (j : Nat) : (goodTo n L j).length = L.length := by
  induction j with
  | zero => rfl
  | succ j ih => simp only [goodTo, List.length_set, ih]
theorem evenL_length (n : Nat) (l : List Int) : (evenL n l).length = n * n := upto_length
theorem good_loop (n : Nat) (L : List Int) (hn : n ≤ 8) (hL : L.length = n * n) : ∀ (d j : Nat), j + d = n → kalman_Good.l0 (d + 1) n j n n (goodTo n L j) = some ((n : Int), (n : Int), goodTo n L n) := by
  intro d
  induction d with
  | zero =>
    intro j hj
    obtain rfl : j = n := by omega
    unfold kalman_Good.l0
    rw [if_neg (by omega)]
  | succ d ih =>
    intro j hj
    have hlt := idx_lt (r := n) (c := n) (i := j) (k := j) (by omega) (by omega)
    have hle : n * n ≤ 8 * 8 := Nat.mul_le_mul hn hn
    have e1 : (j : Int) * (n : Int) = ((j * n : Nat) : Int) := by push_cast; rfl
    have e2 : wrap64 ((j : Int) * (n : Int)) = ((j * n : Nat) : Int) := by rw [e1]; exact w64 (by omega) (by omega)
    have e3 : wrap64 (((j * n : Nat) : Int) + (j : Int)) = ((j * n + j : Nat) : Int) := by rw [w64 (by omega) (by omega)]; push_cast; rfl
    have e4 : wrap64 ((j : Int) + 1) = ((j + 1 : Nat) : Int) := by rw [w64 (by omega) (by omega)]; push_cast; rfl
    unfold kalman_Good.l0
    rw [if_pos (by omega), e2, e3, if_pos (by omega), if_pos (by rw [goodTo_length, hL]; omega), e4, Int.toNat_natCast]
    exact ih (j + 1) (by omega)
theorem good_some (n : Nat) (l : List Int) (hn : n ≤ 8) (hl : l.length = n * n) : kalman_Good.f (n + 1) n n l = some ((n : Int), (n : Int), goodL n l) := by
  have e1 : (l.length : Int) = (n : Int) * (n : Int) := by rw [hl]; push_cast; rfl
  unfold kalman_Good.f mat_Even.f
  rw [if_pos ⟨rfl, by omega, by omega, by omega, by omega, e1⟩]
  simp only [Option.bind_some, Int.toNat_natCast]
  exact good_loop n (evenL n l) hn (evenL_length n l) n 0 (by omega)
theorem good_calls (n : Nat) (A : Option Addr) (c : Nat) (l : List Int) (w : World) (hn : n ≤ 8) (hl : l.length = n * n) (hA : Rd w A l) (hc : l.length ≤ c) :
    Calls Try.prog 15 #[.agg #[I n, I n, .slice A l.length c]] w fun e w' => ∃ A2 c2, e = .returned (.agg #[I n, I n, .slice A2 (goodL n l).length c2]) ∧ Own w' w.heap.size (.slice A2 (goodL n l).length c2) (goodL n l) ∧ Below w.heap.size w w' := by
  refine (kalman_Good.calls (n + 1) n n A c l _ _ _ w hA hc (good_some n l hn hl)).mono ?_
  rintro e w' ⟨v, rfl, ho, hb⟩
  obtain ⟨A2, c2, rfl, _, _⟩ := Own.reads ho
  exact ⟨A2, c2, rfl, ho, hb⟩
def betweenL (r n : Nat) (a p : List Int) : List Int := mulL r n r (mulL r n n a p) (trL r n a)
def betweenB (r n : Nat) (a p : List Int) : Bool := mulB r n n a p || mulB r n r (mulL r n n a p) (trL r n a)
theorem mulL_length (r c1 c2 : Nat) (l m : List Int) : (mulL r c1 c2 l m).length = r * c2 := upto_length
theorem shape {r c : Nat} {l : List Int} (hr : r ≤ 8) (hc : c ≤ 8) (hl : l.length = r * c) : 0 ≤ (r : Int) ∧ (r : Int) ≤ 8 ∧ 0 ≤ (c : Int) ∧ (c : Int) ≤ 8 ∧ (l.length : Int) = (r : Int) * (c : Int) :=
  ⟨by omega, by omega, by omega, by omega, by rw [hl]; push_cast; rfl⟩
theorem mul_some {r c1 c2 : Nat} {l m : List Int} (hr : r ≤ 8) (h1 : c1 ≤ 8) (h2 : c2 ≤ 8) (hl : l.length = r * c1) (hm : m.length = c1 * c2) : mat_Mul.f r c1 l c1 c2 m = some ((r : Int), (c2 : Int), mulL r c1 c2 l m, mulB r c1 c2 l m, 0) := by
  unfold mat_Mul.f
  rw [if_pos rfl, if_pos ⟨shape hr h1 hl, shape h1 h2 hm⟩]
  simp only [Int.toNat_natCast]
theorem trans_some {r c : Nat} {l : List Int} (hr : r ≤ 8) (hc : c ≤ 8) (hl : l.length = r * c) : mat_Trans.f r c l = some ((c : Int), (r : Int), trL r c l) := by
  unfold mat_Trans.f
  rw [if_pos (shape hr hc hl)]
  simp only [Int.toNat_natCast]
theorem workmat_some (s : Bool) (a b : Int) (l : List Int) (o : Bool) (e : Int) : kalman_work_mat.f s a b l o e = some (a, b, l, s || o) := by
  unfold kalman_work_mat.f
  cases s <;> simp
theorem between_some (s : Bool) (r n : Nat) (a p : List Int) (hr : r ≤ 8) (hn : n ≤ 8) (ha : a.length = r * n) (hp : p.length = n * n) :
    kalman_work_between.f s r n a n n p = some ((r : Int), (r : Int), betweenL r n a p, s || betweenB r n a p) := by
  unfold kalman_work_between.f
  simp only [mul_some hr hn hn ha hp, Option.bind_some, workmat_some, trans_some hr hn ha, mul_some hr hn hr (mulL_length _ _ _ _ _) (trL_length r n a)]
  simp [betweenL, betweenB, Bool.or_assoc]
theorem gr_set {w w' : World} {r : Option Nat} (h : w.grownBy w' r) {p : Addr} (hp : w.heap.size ≤ p.block) (u : Value) : w.grownBy (w'.setCell p u) r :=
  ⟨h.os, h.tape, h.output, by simpa using h.size, fun k hk hne => (Below.heap_setCell w' p u k (by omega)).trans (h.block k hk hne)⟩
theorem gr_fill3 {w w' : World} {r : Option Nat} (h : w.grownBy w' r) {C : Nat} (hp : w.heap.size ≤ C) (a b c : Value) : w.grownBy (fill3 w' C a b c) r :=
  gr_set (gr_set (gr_set h (p := ⟨C, 0, none⟩) hp a) (p := ⟨C, 1, none⟩) hp b) (p := ⟨C, 2, none⟩) hp c
set_option maxRecDepth 100000 in
set_option maxHeartbeats 4000000 in
theorem scaled_calls (g kb pb n : Nat) (s : Bool) (A : Option Addr) (cp : Nat) (k : List Int) (q : Int) (w : World) (hn : n ≤ 8) (hk : k.length = n * 1) (hA : Rd w A k) (hcp : k.length ≤ cp)
    (Rk : Row w kb 26 #[I n, I 1, .slice A k.length cp]) (Rp : Row w pb 75 #[.pointer (some ⟨g, 0, none⟩)]) (R : Row w g 77 #[.bool s]) :
    Calls Try.prog 68 #[I q, .pointer (some ⟨kb, 0, none⟩), .pointer (some ⟨pb, 0, none⟩)] w fun e w' => ∃ A2 c2, e = .returned (.agg #[I n, I 1, .slice A2 (scaleL n 1 k q).length c2]) ∧ Own w' w.heap.size (.slice A2 (scaleL n 1 k q).length c2) (scaleL n 1 k q) ∧ Row w' g 77 #[.bool (s || scaleB n 1 k q)] ∧ w.grownBy w' (some g) := by
  have hgl := R.lt
  have N : Hid (Sg w g [(26, #[I 0, I 0, .slice none 0 0])] (w.alloc (.cells #[I 0, I 0, .slice none 0 0] 26))) := Lib.hid (Sg.of ((Scene.none w).push (by simp) _ _))
  have HS := Lib.hid (mat_scale n 1 A cp k q _ hn (by omega) hk (hA.below ((Below.refl _ _).alloc (Nat.le_refl _) (.cells #[I 0, I 0, .slice none 0 0] 26))) hcp)
  have x0 := (Rk.alloc (.cells #[I 0, I 0, .slice none 0 0] 26)).cell
  have RP := Lib.hid (Rp.alloc (.cells #[I 0, I 0, .slice none 0 0] 26))
  have RG := Lib.hid (R.alloc (.cells #[I 0, I 0, .slice none 0 0] 26))
  have GL := Lib.hid hgl
  obtain ⟨L, hL⟩ : ∃ L, scaleL n 1 k q = L := ⟨_, rfl⟩
  obtain ⟨b, hb⟩ : ∃ b, scaleB n 1 k q = b := ⟨_, rfl⟩
  rw [hL, hb] at HS ⊢
  clear hn hk hA hcp Rk Rp R hgl hL hb
  go_enter Try.func68, Try.ntmps68
  go_wp2_with fail
  refine HS.out.mono ?_
  rintro e w2 ⟨v, rfl, ho, hb⟩
  obtain ⟨A2, c2, rfl, _, _⟩ := Own.reads ho
  have O := Lib.hid ho
  have N2 := Lib.hid ((N.out.below hb).alloc (.cells #[I n, I 1, .slice A2 L.length c2] 26))
  have RP2 := Lib.hid (RP.out.below hb RP.out.lt)
  have RG2 := Lib.hid ((RG.out.below hb RG.out.lt).alloc (.cells #[I n, I 1, .slice A2 L.length c2] 26))
  clear ho hb x0
  have x1 := RP2.out.cell
  have x2 := RP2.out.lt
  go_wp2_with fail
  refine (mat45 g s b n 1 0 A2 L.length c2 _ RG2.out).mono ?_
  rintro e w3 ⟨rfl, hr3, hg3⟩
  have O3 := Lib.hid (Own.touch (O.out.alloc _) hg3 (by have := GL.out; simp; omega))
  have N3 := Lib.hid (N2.out.touch hg3 GL.out)
  have R3 := Lib.hid hr3
  clear hr3 hg3 x1 x2
  have x1 := N3.out.r0.cell
  have g1 := N3.out.r0.free
  go_wp2
  refine bodyPost_ret (res3 rfl rfl (N3.out.r0.fill3 _ _ _)) rfl ⟨_, _, rfl, ?_, R3.out.far3 (by have := GL.out; omega), gr_fill3 N3.out.gr (Nat.le_refl _) _ _ _⟩
  exact (O3.out.fill3 (by simp) _ _ _).lower (by simp)
end Go.Proofs.Ytninmcmajbfccaa.PR

/- A region that draws its order, whose last store writes what it has read: S need hold but till then. -/
namespace Go.Proofs.Ytninmcmajbfccaa.KK
open Go.RowKit
set_option linter.unusedVariables false
set_option linter.unusedSimpArgs false
section
variable {P : Program} {md : Region.Mode} {ops : Array Oper} {Q : Exit → Act → World → Prop} {S : World → Prop} {m : Nat}
/-- whatever comes up next: S holds behind it, as long as number m hasn't come up -/
def Until (P : Program) (md : Region.Mode) (ops : Array Oper) (Q : Exit → Act → World → Prop) (S : World → Prop) (m : Nat) : Nat → Array Bool → Act → World → Prop
  | 0, L, a, w => Region.ready md ops L = [] ∧ Q .normal a w
  | f + 1, L, a, w => (Region.ready md ops L = [] → Q .normal a w) ∧
      ∀ i ∈ Region.ready md ops L, wpOp P ops Q i (fun a' w' => ((L.setIfInBounds i true).getD m true = false → S w') ∧ Until P md ops Q S m f (L.setIfInBounds i true) a' w') a w
theorem Until.any : ∀ (f : Nat) (L : Array Bool) (a : Act) (w : World), Until P md ops Q S m f L a w → wpAny P md ops Q f L a w
  | 0, _, _, _, h => h
  | f + 1, _, _, _, h => ⟨h.1, fun i hi => wpOp_mono (fun a' w' h' => Until.any f _ a' w' h'.2) (h.2 i hi)⟩
/-- does number m wait for number i? -/
def waits (md : Region.Mode) (ops : Array Oper) (m i : Nat) : Bool := match ops[m]? with | some o => o.after.any fun e => Region.binds md e && e.on == i | none => false
theorem waits_spec {i : Nat} (h : waits md ops m i = true) : ∃ o e, ops[m]? = some o ∧ e ∈ o.after ∧ Region.binds md e = true ∧ e.on = i := by
  unfold waits at h
  cases ho : ops[m]? with
  | none => rw [ho] at h; cases h
  | some o =>
    rw [ho] at h
    simp only [Array.any_eq_true'] at h
    obtain ⟨e, he, hb⟩ := h
    simp only [Bool.and_eq_true, beq_iff_eq] at hb
    exact ⟨o, e, rfl, he, hb.1, hb.2⟩
theorem not_waiting {i j : Nat} {L : Array Bool} (hi : i ∈ Region.ready md ops L) (hj : j ∈ Region.ready md ops L) : ∃ o, ops[j]? = some o ∧ ∀ e ∈ o.after, Region.binds md e = true → e.on ≠ i := by
  obtain ⟨_, o, ho, hall⟩ := mem_ready.1 hj
  refine ⟨o, ho, fun e he hb heq => ?_⟩
  have h1 := hall e he hb
  have h0 := (mem_ready.1 hi).1
  rw [heq] at h1
  by_cases hs : i < L.size
  · rw [Array.getD_eq_getD_getElem?, Array.getElem?_eq_getElem hs] at h0 h1
    simp at h0 h1
    rw [h0] at h1
    cases h1
  · rw [Array.getD_eq_getD_getElem?, Array.getElem?_eq_none (by omega)] at h1
    simp at h1
theorem Until.first {i : Nat} {oi : Oper} {v : Value} (hi : ops[i]? = some oi) (hs : Region.noSelect ops = true) (hQ : ∀ c a w, Q (.panic c) (a.put oi.dst v) w → Q (.panic c) a w) (hm : waits md ops m i = true) :
    ∀ (f : Nat) (L : Array Bool) (a : Act) (w : World),
      (∀ j oj, ops[j]? = some oj → j ≠ i → L.getD j true = false → (∀ e ∈ oj.after, Region.binds md e = true → e.on ≠ i) → oi.apart ops oj = true) →
      i ∈ Region.ready md ops L → L.getD m true = false → YieldsIf P ops S oi v a → S w →
      Until P md ops Q S m f (L.setIfInBounds i true) (a.put oi.dst v) w → Until P md ops Q S m (f + 1) L a w := by
  obtain ⟨om, em, hom, hem, hbm, honm⟩ := waits_spec hm
  intro f
  induction f with
  | zero =>
    intro L a w hf hr hu hy hS H
    refine ⟨fun h => (by rw [h] at hr; cases hr), fun j hj => ?_⟩
    by_cases hji : j = i
    · subst hji; exact hy.wpOp hi hS ⟨fun _ => hS, H⟩
    · have h := ready_mono hj hji
      rw [H.1] at h
      cases h
  | succ f ih =>
    intro L a w hf hr hu hy hS H
    refine ⟨fun h => (by rw [h] at hr; cases hr), fun j hj => ?_⟩
    by_cases hji : j = i
    · subst hji; exact hy.wpOp hi hS ⟨fun _ => hS, H⟩
    · obtain ⟨oj, hoj, hno⟩ := not_waiting hr hj
      have hjm : j ≠ m := fun e => by
        subst e
        rw [hom] at hoj
        injection hoj with hoj
        subst hoj
        exact hno em hem hbm honm
      have him : i ≠ m := fun e => by
        subst e
        obtain ⟨o', ho', hn'⟩ := not_waiting hr hr
        rw [hom] at ho'
        injection ho' with ho'
        subst ho'
        exact hn' em hem hbm honm
      have hun := (mem_ready.1 hj).1
      have h2 := wpOp_putIf hoj (hf j oj hoj hji hun hno) (fun cs b => Region.noSelect_spec hs i oi cs b hi) (fun cs b => Region.noSelect_spec hs j oj cs b hoj) hQ hy (H.2 j (ready_mono hj hji))
      refine wpOp_mono (fun a' w' h3 => ?_) h2
      obtain ⟨hy', hS', H'⟩ := h3
      have hu' : (L.setIfInBounds j true).getD m true = false := by rw [getD_set_ne true hjm]; exact hu
      have hSw : S w' := hS' (by rw [getD_set_ne true hjm, getD_set_ne true him]; exact hu)
      refine ⟨fun _ => hSw, ih _ a' w' ?_ (ready_mono hr (Ne.symm hji)) hu' hy' hSw ?_⟩
      · intro k ok hk hki hku hkn
        refine hf k ok hk hki ?_ hkn
        by_cases hjk : j = k
        · subst hjk; exact hun
        · rw [getD_set_ne true hjk] at hku; exact hku
      · rw [Array.setIfInBounds_comm _ _ hji]
        exact H'
theorem Until.take {i : Nat} {oi : Oper} {v : Value} {f : Nat} {L : Array Bool} {a : Act} {w : World} (hi : ops[i]? = some oi)
    (hs : Region.noSelect ops = true) (hf : Region.free md ops L i = true) (hr : (Region.ready md ops L).contains i = true) (hm : waits md ops m i = true) (hu : L.getD m true = false)
    (hQ : ∀ c a w, Q (.panic c) (a.put oi.dst v) w → Q (.panic c) a w) (hy : YieldsIf P ops S oi v a) (hS : S w)
    (h : Until P md ops Q S m f (L.setIfInBounds i true) (a.put oi.dst v) w) : Until P md ops Q S m (f + 1) L a w :=
  Until.first hi hs hQ hm f L a w (Region.free_spec hi hf) (by simpa using hr) hu hy hS h
theorem Until.one {i : Nat} {o : Oper} {f : Nat} {L : Array Bool} {a : Act} {w : World} (hr : Region.ready md ops L = [i]) (ho : ops[i]? = some o)
    (h : ∀ K' : Act → World → Prop, Shut (∀ a w, ((L.setIfInBounds i true).getD m true = false → S w) → Until P md ops Q S m f (L.setIfInBounds i true) a w → K' a w) → if Region.wanted o (yielded ops a.tmps) = true then Oper.wp P o a w K' Q else K' (a.put o.dst undef) w) :
    Until P md ops Q S m (f + 1) L a w := by
  refine ⟨fun h0 => (by rw [hr] at h0; cases h0), fun j hj => ?_⟩
  rw [hr] at hj
  obtain rfl := List.mem_singleton.1 hj
  have h1 := h (fun a' w' => ((L.setIfInBounds j true).getD m true = false → S w') ∧ Until P md ops Q S m f (L.setIfInBounds j true) a' w') (fun a w hS hU => ⟨hS, hU⟩)
  unfold wpOp
  simp only [ho]
  split
  · rename_i hw
    rw [if_pos hw] at h1
    exact .inl h1
  · rename_i hw
    rw [if_neg hw] at h1
    exact h1
theorem Until.done {L : Array Bool} {a : Act} {w : World} (hr : Region.ready md ops L = []) (h : Q .normal a w) : ∀ f, Until P md ops Q S m f L a w
  | 0 => ⟨hr, h⟩
  | _ + 1 => ⟨fun _ => h, by rw [hr]; simp⟩
theorem region_until {id : Nat} {a : Act} {w : World} (S : World → Prop) (m : Nat) (hm : P.follows .mixedOrders = true) (hS : S w.drew) (h : S w.drew → Until P .any ops (NoPanic Q) S m ops.size (Array.replicate ops.size false) a w.drew) : (Code.region id ops true).wp P Q a w :=
  wp_region_noPanic (wp_region_any hm (Until.any _ _ _ _ (h hS)))
end
end Go.Proofs.Ytninmcmajbfccaa.KK
