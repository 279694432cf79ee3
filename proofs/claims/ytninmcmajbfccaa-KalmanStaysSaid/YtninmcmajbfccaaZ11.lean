import Derived.Test.YtninmcmajbfccaaZ3
/- Joined by a program of this session's own (wip/pack.py) out of its texts; the parts PQ, PR, PS were laid by its own program (wip/print-patch.py over the kit's print) out of the translation; Lean checks all. -/
-- Laid by a program of this session's own (wip/print-patch.py over the kit's print), out of the translation; Lean checks it.
namespace Go.Proofs.Ytninmcmajbfccaa.PQ
open Go.RowKit Go.Proofs.YtninmcmajbfccaaW.PrintWords Go.Proofs.YtninmcmajbfccaaW.PrintLast Go.Proofs.YtninmcmajbfccaaW.PrintMore
attribute [local go_sem] max2_int min2_int max_two min_two max_three min_three max_four min_four   -- for this text's walks alone
set_option linter.unusedVariables false
set_option linter.unusedSimpArgs false

/-! ### alidaderef03_Diag: function 42 -/
mutual
def alidaderef03_Diag.j0 : Nat → List Int → Int → Bool → Option (Int × Int × List Int × Int)
  | 0, _, _, _ => none
  | k + 1, x0, x4, x15 => if x15 = true then (some (0, 0, ([] : List Int), 1)) else ((alidaderef03_None.f k x4 x4).bind fun bt221 => (alidaderef03_Diag.l0 k x0 x4 0 bt221.1 bt221.2.1 bt221.2.2))
def alidaderef03_Diag.l0 : Nat → List Int → Int → Int → Int → Int → List Int → Option (Int × Int × List Int × Int)
  | 0, _, _, _, _, _, _ => none
  | k + 1, x0, x4, x6, x227000, x227001, x227002 => if x6 < x4 then (if 0 ≤ x6 then (if x6 < (x0.length : Int) then ((alidaderef01_In.f (rd x0 x6)).bind fun t228 => (if t228 = true then (if 0 ≤ (wrap64 ((wrap64 (x6 * x4)) + x6)) then (if (wrap64 ((wrap64 (x6 * x4)) + x6)) < (x227002.length : Int) then (alidaderef03_Diag.l0 k x0 x4 (wrap64 (x6 + 1)) x227000 x227001 (x227002.set ((wrap64 ((wrap64 (x6 * x4)) + x6)) : Int).toNat (rd x0 x6))) else (none)) else (none)) else (some (0, 0, ([] : List Int), 1)))) else (none)) else (none)) else (some (x227000, x227001, x227002, 0))
end
def alidaderef03_Diag.f (k : Nat) (l0 : List Int) : Option (Int × Int × List Int × Int) := if (l0.length : Int) < 1 then (alidaderef03_Diag.j0 k l0 (l0.length : Int) true) else (alidaderef03_Diag.j0 k l0 (l0.length : Int) (decide ((l0.length : Int) > 8)))
def alidaderef03_Diag.T11 : Bool × List (List Nat × List Nat) := (true, [([], []), ([0], [0]), ([], []), ([], []), ([2, 3], [2, 3]), ([], []), ([4, 5], [4, 5]), ([], []), ([], []), ([7, 8], [7, 8]), ([9], [9]), ([1, 6, 0, 1, 2, 3, 4, 5, 6, 7, 8, 9, 10], [1, 6]), ([11, 10, 0, 1, 2, 3, 4, 5, 6, 7, 8, 9, 10], [10, 11])])
def alidaderef03_Diag.B11 : List Nat := [0, 1, 0, 0, 12, 0, 60, 0, 0, 384, 896, 2047, 4095]
theorem alidaderef03_Diag.tab11 : rtab .any (opsOf Try.f42 11) = alidaderef03_Diag.T11 := by kernel_rfl
theorem alidaderef03_Diag.bits11 : waitsOk alidaderef03_Diag.T11.2 alidaderef03_Diag.B11 = true := by kernel_rfl
set_option maxHeartbeats 8000000 in
set_option maxRecDepth 100000 in
theorem alidaderef03_Diag.calls (k : Nat) (A0 : Option Addr) (c0 : Nat) (l0 : List Int) (r1 : Int) (r2 : Int) (r3 : List Int) (r4 : Int) (w : World) (hr0 : Kd.C (Kd.int .i64) w A0 l0.length l0) (hc0 : l0.length ≤ c0) (h : alidaderef03_Diag.f k l0 = some (r1, r2, r3, r4)) :
    Calls Try.prog 42 #[.slice A0 l0.length c0] w fun e w' => ∃ v2_ : Value, e = .returned (.tuple #[.agg #[.int .i64 r1, .int .i64 r2, v2_], .int .i64 r4]) ∧ Kd.R (Kd.int .i64) 22 w' w.heap.size (fun _ => True) v2_ r3 ∧ Below w.heap.size w w' := by
  have hu26 := Try.underlying26
  have HR0 := Aside0.mk hr0
  have HC0 := Aside0.mk hc0
  clear hr0 hc0
  have HB := Aside0.mk (Below.refl w.heap.size w)
  have H : (if (l0.length : Int) < 1 then (alidaderef03_Diag.j0 k l0 (l0.length : Int) true) else (alidaderef03_Diag.j0 k l0 (l0.length : Int) (decide ((l0.length : Int) > 8)))) = some (r1, r2, r3, r4) := h
  clear h
  have HC2 := Aside0.mk H
  clear H
  go_enter Try.func42, Try.ntmps42
  go_upto_region 2 with (first | ((with_reducible refine gate_dst (N := 2) rfl ?_); refine box_event ?hg (N := 2) ?hd (cs := #[.int .i64 0, .int .i64 0, .slice none 0 0]) (t := 26) ?hr ?_; (case hd => rfl); (case hg => rfl); (case hr => first | (go_simp; done) | (go_simp; rfl)); intro gb220 hg w3 hbox hb; have n0_ := Aside0.mk (below_step (by repeat (first | (with_reducible first | exact HB.out | apply below_alloc | apply pw_below_drewN | apply below_drew1) | exact HB.out)) hb); have n1_ := Aside0.mk (hbox); have n2_ := Aside0.mk ((by rw [hg]; exact (below_size (by repeat (first | (with_reducible first | exact HB.out | apply below_alloc | apply pw_below_drewN | apply below_drew1) | exact HB.out))) : w.heap.size ≤ gb220)); have n3_ := Aside0.mk ((by rw [hg]; exact (below_size (by repeat (first | (with_reducible first | exact HB.out | apply below_alloc | apply pw_below_drewN | apply below_drew1) | exact HB.out))) : w.heap.size ≤ gb220)); clear HB; have HB := n0_; have BK220 := n1_; have GW220 := n2_; have GE220 := n3_; clear n0_ n1_ n2_ n3_; clear hb hbox hg))
  (try simp only [Act.put, List.setIfInBounds_toArray, List.set_cons_zero, List.set_cons_succ])
  go_cut [15] (fun v15 wc => ∃ (kq : Nat) (x15_1 : Bool), v15 = .bool x15_1 ∧ Aside0 (alidaderef03_Diag.j0 kq l0 (l0.length : Int) x15_1 = some (r1, r2, r3, r4)) ∧ Aside0 (kq ≤ k) ∧ Aside0 (wc.heap[gb220]? = some (.cells #[.int .i64 0, .int .i64 0, (.slice none 0 0)] 26 (0, 0))) ∧ Aside0 (Below w.heap.size w wc))
  case first =>
    have H := HC2.out
    clear HC2
    by_cases c4 : (l0.length : Int) < 1
    · rw [if_pos c4] at H
      have c4b0 : decide ((l0.length : Int) < 1) = true := decide_eq_true c4
      have c4b1 : decide (l0.length < 1) = true := decide_eq_true (by omega)
      clear c4
      (first | rw [c4b0] | (simp only [i64_w, i32_w]; rw [c4b0]) | skip)
      have H' := Aside0.mk H
      clear H
      go_wp2
      go_meet
      case rel => exact ⟨_, (true), (by first | rfl | (simp; done) | (simp [*]; done)), H', ⟨by first | omega | exact Nat.le_refl _⟩, ⟨by (with_reducible repeat (first | refine blk_drewN ?_ _ | refine blk_drew ?_ | refine blk_alloc ?_ _)); exact BK220.out⟩, ⟨by repeat (first | (with_reducible first | exact HB.out | apply below_alloc | apply pw_below_drewN | apply below_drew1 | refine below_set ?_ GE220.out) | exact HB.out)⟩⟩
    · rw [if_neg c4] at H
      have c4b0 : decide ((l0.length : Int) < 1) = false := decide_eq_false c4
      have c4b1 : decide (l0.length < 1) = false := decide_eq_false (by omega)
      clear c4
      (first | rw [c4b0] | (simp only [i64_w, i32_w]; rw [c4b0]) | skip)
      have H' := Aside0.mk H
      clear H
      go_wp2
      go_meet
      case rel => exact ⟨_, (decide ((l0.length : Int) > 8)), (by first | rfl | (simp; done) | (simp [*]; done)), H', ⟨by first | omega | exact Nat.le_refl _⟩, ⟨by (with_reducible repeat (first | refine blk_drewN ?_ _ | refine blk_drew ?_ | refine blk_alloc ?_ _)); exact BK220.out⟩, ⟨by repeat (first | (with_reducible first | exact HB.out | apply below_alloc | apply pw_below_drewN | apply below_drew1 | refine below_set ?_ GE220.out) | exact HB.out)⟩⟩
  case rest =>
    clear HC2
    try clear p2
    try clear c4
    try clear c4b0
    try clear c4b1
    obtain ⟨kq, x15_1, rfl, HA, HJ1, BK220, HB⟩ := hcut
    cases kq with
    | zero => exact absurd HA.out (by simp [alidaderef03_Diag.j0])
    | succ kj1 =>
      have H := HA.out
      clear HA
      simp only [alidaderef03_Diag.j0] at H
      by_cases c5 : x15_1 = true
      · subst c5
        have H1 : (some (0, 0, ([] : List Int), 1)) = some (r1, r2, r3, r4) := by rw [if_pos rfl] at H; exact H
        clear H
        have H := H1
        clear H1
        simp only [Option.some.injEq, Prod.mk.injEq] at H
        obtain ⟨rfl, rfl, rfl, rfl⟩ := H
        have hcz6_0 : wc.cell? ⟨gb220, 0, none⟩ = some (.int .i64 0) := (blk_cell BK220.out 0).trans rfl
        have hcz6_1 : wc.cell? ⟨gb220, 1, none⟩ = some (.int .i64 0) := (blk_cell BK220.out 1).trans rfl
        have hcz6_2 : wc.cell? ⟨gb220, 2, none⟩ = some (.slice none 0 0) := (blk_cell BK220.out 2).trans rfl
        have hfz6_0 := blk_frozen BK220.out 0
        have hfz6_1 := blk_frozen BK220.out 1
        have hfz6_2 := blk_frozen BK220.out 2
        go_wp2
        refine bodyPost_ret (results_ct rfl _ _ gb220 26 #[.int .i64 0, .int .i64 0, .slice none 0 0] (0, 0) _ rfl (by (with_reducible repeat (first | refine blk_drewN ?_ _ | refine blk_drew ?_ | refine blk_alloc ?_ _)); refine blk_put (cs := #[.int .i64 0, .int .i64 0, .slice none 0 0]) ?_ 2 _ rfl; (with_reducible repeat (first | refine blk_drewN ?_ _ | refine blk_drew ?_ | refine blk_alloc ?_ _)); refine blk_put (cs := #[.int .i64 0, .int .i64 0, .slice none 0 0]) ?_ 1 _ rfl; (with_reducible repeat (first | refine blk_drewN ?_ _ | refine blk_drew ?_ | refine blk_alloc ?_ _)); refine blk_put (cs := #[.int .i64 0, .int .i64 0, .slice none 0 0]) ?_ 0 _ rfl; (with_reducible repeat (first | refine blk_drewN ?_ _ | refine blk_drew ?_ | refine blk_alloc ?_ _)); exact BK220.out) Try.underlying26 rfl (by kernel_rfl)) rfl ?_
        exact ⟨_, by first | rfl | (simp [errW_none, errW_some] <;> rfl) | (simp [*, errW_none, errW_some] <;> rfl), by first | exact Kd.R_nil _ _ _ _ _ | exact Kd.N_nil _ _ _ _ _ | exact Kd.V_nil _ _ _ _ _ | exact Kd.Q_nil _ _ _ _ _ | exact Kd.S_nil _ _ _ _ _, by repeat (first | (with_reducible first | exact HB.out | apply below_alloc | apply pw_below_drewN | apply below_drew1 | refine below_set ?_ GE220.out) | exact HB.out)⟩
      · replace c5 := Bool.eq_false_iff.mpr c5
        subst c5
        have H1 : ((alidaderef03_None.f kj1 (l0.length : Int) (l0.length : Int)).bind fun bt221 => (alidaderef03_Diag.l0 kj1 l0 (l0.length : Int) 0 bt221.1 bt221.2.1 bt221.2.2)) = some (r1, r2, r3, r4) := by rw [if_neg (show ¬ (false = true) by decide)] at H; exact H
        clear H
        have H := H1
        clear H1
        replace H := Option.bind_eq_some_iff.mp H
        obtain ⟨⟨t221, t222, t223⟩, A70, H⟩ := H
        replace H : (alidaderef03_Diag.l0 kj1 l0 (l0.length : Int) 0 t221 t222 t223) = some (r1, r2, r3, r4) := H
        have A7 := Aside0.mk A70
        clear A70
        have H' := Aside0.mk H
        clear H
        go_wp2_with (first | ((with_reducible refine gate_callee (f := 16) rfl ?_); refine goesL_ (some 19) rfl rfl Try.func16 (by kernel_rfl) rfl #[.int .i64 (l0.length : Int), .int .i64 (l0.length : Int)] rfl (by (try simp only [List.map_toArray, List.map_cons, List.map_nil]); first | done | rfl | (simp only [List.length_drop, List.length_take]; rfl)) ?_; (with_reducible refine (alidaderef03_None.calls kj1 (l0.length : Int) (l0.length : Int) t221 t222 t223 _ A7.out).mono ?_); rintro e w8 ⟨v224, rfl, ho0, hb⟩; refine ⟨_, rfl, ?_⟩; have n0_ := Aside0.mk (Kd.R_lower ho0 (below_size (by repeat (first | (with_reducible first | exact HB.out | apply below_alloc | apply pw_below_drewN | apply below_drew1 | refine below_set ?_ GE220.out) | exact HB.out)))); have n1_ := Aside0.mk (blk_below (g := gb220) (o := .cells #[.int .i64 0, .int .i64 0, .slice none 0 0] 26 (0, 0)) (by (with_reducible repeat (first | refine blk_drewN ?_ _ | refine blk_drew ?_ | refine blk_alloc ?_ _)); exact BK220.out) hb); have n2_ := Aside0.mk (below_step (by repeat (first | (with_reducible first | exact HB.out | apply below_alloc | apply pw_below_drewN | apply below_drew1 | refine below_set ?_ GE220.out) | exact HB.out)) hb); clear BK220; clear HB; have HO225 := n0_; have BK220 := n1_; have HB := n2_; clear n0_ n1_ n2_; (try clear hb); (try clear hb2); (try clear hk); (try clear hi); (try clear ho0)) | ((with_reducible refine gate_dst (N := 5) rfl ?_); refine box_event ?hg (N := 5) ?hd (cs := #[.int .i64 0, .int .i64 0, .slice none 0 0]) (t := 26) ?hr ?_; (case hd => rfl); (case hg => rfl); (case hr => first | (go_simp; done) | (go_simp; rfl)); intro gb226 hg w9 hbox hb; have n0_ := Aside0.mk (Kd.R_below (by (with_reducible repeat (first | apply Kd.R_alloc | apply Kd.R_drewN | apply Kd.R_drew)); exact HO225.out) hb); have n1_ := Aside0.mk (blk_below (g := gb220) (o := .cells #[.int .i64 0, .int .i64 0, .slice none 0 0] 26 (0, 0)) (by (with_reducible repeat (first | refine blk_drewN ?_ _ | refine blk_drew ?_ | refine blk_alloc ?_ _)); exact BK220.out) hb); have n2_ := Aside0.mk (below_step (by repeat (first | (with_reducible first | exact HB.out | apply below_alloc | apply pw_below_drewN | apply below_drew1 | refine below_set ?_ GE220.out) | exact HB.out)) hb); have n3_ := Aside0.mk (hbox); have n4_ := Aside0.mk ((by rw [hg]; exact (below_size (by repeat (first | (with_reducible first | exact HB.out | apply below_alloc | apply pw_below_drewN | apply below_drew1 | refine below_set ?_ GE220.out) | exact HB.out))) : w.heap.size ≤ gb226)); have n5_ := Aside0.mk ((by rw [hg]; exact (below_size (by repeat (first | (with_reducible first | exact HB.out | apply below_alloc | apply pw_below_drewN | apply below_drew1 | refine below_set ?_ GE220.out) | exact HB.out))) : w.heap.size ≤ gb226)); have n6_ := Aside0.mk ((by rw [hg]; exact Nat.ne_of_lt (blk_lt (g := gb220) (o := .cells #[.int .i64 0, .int .i64 0, .slice none 0 0] 26 (0, 0)) (by (with_reducible repeat (first | refine blk_drewN ?_ _ | refine blk_drew ?_ | refine blk_alloc ?_ _)); exact BK220.out)) : gb220 ≠ gb226)); have n7_ := Aside0.mk ((by rw [hg]; exact Nat.ne_of_gt (blk_lt (g := gb220) (o := .cells #[.int .i64 0, .int .i64 0, .slice none 0 0] 26 (0, 0)) (by (with_reducible repeat (first | refine blk_drewN ?_ _ | refine blk_drew ?_ | refine blk_alloc ?_ _)); exact BK220.out)) : gb226 ≠ gb220)); clear HO225; clear BK220; clear HB; have HO225 := n0_; have BK220 := n1_; have HB := n2_; have BK226 := n3_; have GW226 := n4_; have GE226 := n5_; have NB220_226 := n6_; have NB226_220 := n7_; clear n0_ n1_ n2_ n3_ n4_ n5_ n6_ n7_; clear hb hbox hg; have hnb10 := NB226_220.out; have hnc10 := NB220_226.out; have hcz11_0 : w9.cell? ⟨gb226, 0, none⟩ = some (.int .i64 0) := (blk_cell BK226.out 0).trans rfl; have hcz11_1 : w9.cell? ⟨gb226, 1, none⟩ = some (.int .i64 0) := (blk_cell BK226.out 1).trans rfl; have hcz11_2 : w9.cell? ⟨gb226, 2, none⟩ = some (.slice none 0 0) := (blk_cell BK226.out 2).trans rfl; have hfz11_0 := blk_frozen BK226.out 0; have hfz11_1 := blk_frozen BK226.out 1; have hfz11_2 := blk_frozen BK226.out 2; obtain ⟨Ao12, co12, eo12⟩ := Kd.R_slice HO225.out; subst eo12))
        go_loopg [6] kj1 (fun kq v6 w' => ∃ (x6_2 : Int) (x221000_2 : Int) (x221001_2 : Int) (x227002_2 : List Int) (u227002 : Value), v6 = .int .i64 x6_2 ∧ Aside0 (alidaderef03_Diag.l0 kq l0 (l0.length : Int) x6_2 t221 t222 x227002_2 = some (r1, r2, r3, r4)) ∧ Aside0 (kq ≤ kj1) ∧ Aside0 (Kd.R (Kd.int .i64) 22 w' w.heap.size (fun _ => True) u227002 x227002_2) ∧ Aside0 (w'.heap[gb220]? = some (.cells #[.int .i64 x221000_2, .int .i64 x221001_2, (.slice none 0 0)] 26 (0, 0))) ∧ Aside0 (w'.heap[gb226]? = some (.cells #[.int .i64 t221, .int .i64 t222, u227002] 26 (0, 0))) ∧ Aside0 (Below w.heap.size w w'))
        case atStart => exact ⟨(0), (0), (0), (t223), (.slice Ao12 t223.length co12), (by first | rfl | (simp; done) | (simp [*]; done)), H', ⟨Nat.le_refl _⟩, ⟨by (with_reducible repeat (first | apply Kd.R_alloc | apply Kd.R_drewN | apply Kd.R_drew)); exact Kd.R_mono (Kd.R_far (p := ⟨gb226, 2, none⟩) (Kd.R_far (p := ⟨gb226, 1, none⟩) (Kd.R_far (p := ⟨gb226, 0, none⟩) (Kd.R_types HO225.out BK226.out (by decide)) (fun _ hk => hk.2) (.int .i64 t221)) (fun _ hk => hk.2) (.int .i64 t222)) (fun _ hk => hk.2) (.slice Ao12 t223.length co12)) (fun _ hk => trivial)⟩, ⟨by (with_reducible repeat (first | refine blk_drewN ?_ _ | refine blk_drew ?_ | refine blk_alloc ?_ _)); refine blk_far ?_ NB220_226.out _; (with_reducible repeat (first | refine blk_drewN ?_ _ | refine blk_drew ?_ | refine blk_alloc ?_ _)); refine blk_far ?_ NB220_226.out _; (with_reducible repeat (first | refine blk_drewN ?_ _ | refine blk_drew ?_ | refine blk_alloc ?_ _)); refine blk_far ?_ NB220_226.out _; (with_reducible repeat (first | refine blk_drewN ?_ _ | refine blk_drew ?_ | refine blk_alloc ?_ _)); exact BK220.out⟩, ⟨by (with_reducible repeat (first | refine blk_drewN ?_ _ | refine blk_drew ?_ | refine blk_alloc ?_ _)); refine blk_put (cs := #[.int .i64 t221, .int .i64 t222, .slice none 0 0]) ?_ 2 _ rfl; (with_reducible repeat (first | refine blk_drewN ?_ _ | refine blk_drew ?_ | refine blk_alloc ?_ _)); refine blk_put (cs := #[.int .i64 t221, .int .i64 0, .slice none 0 0]) ?_ 1 _ rfl; (with_reducible repeat (first | refine blk_drewN ?_ _ | refine blk_drew ?_ | refine blk_alloc ?_ _)); refine blk_put (cs := #[.int .i64 0, .int .i64 0, .slice none 0 0]) ?_ 0 _ rfl; (with_reducible repeat (first | refine blk_drewN ?_ _ | refine blk_drew ?_ | refine blk_alloc ?_ _)); exact BK226.out⟩, ⟨by repeat (first | (with_reducible first | exact HB.out | apply below_alloc | apply pw_below_drewN | apply below_drew1 | refine below_set ?_ GE220.out | refine below_set ?_ GE226.out) | exact HB.out)⟩⟩
        case round =>
          clear H'
          try clear c1
          try clear p2
          try clear c4
          try clear c4b0
          try clear c4b1
          try clear c5
          try clear c10
          try clear hcz11_0
          try clear hcz11_1
          try clear hcz11_2
          try clear hcz6_0
          try clear hcz6_1
          try clear hcz6_2
          try clear hfz11_0
          try clear hfz11_1
          try clear hfz11_2
          try clear hfz6_0
          try clear hfz6_1
          try clear hfz6_2
          try clear p2
          obtain ⟨x6_2, x221000_2, x221001_2, x227002_2, u227002, rfl, HA, HK2, HO_227002, BK220, BK226, HB⟩ := hrel
          cases gk with
          | zero => exact absurd HA.out (by simp [alidaderef03_Diag.l0])
          | succ k2 =>
            have H := HA.out
            clear HA
            simp only [alidaderef03_Diag.l0] at H
            by_cases c13 : x6_2 < (l0.length : Int)
            · rw [if_pos c13] at H
              have c13b0 : decide (x6_2 < (l0.length : Int)) = true := decide_eq_true c13
              clear c13
              by_cases c14 : 0 ≤ x6_2
              · rw [if_pos c14] at H
                have c14b0 : decide (0 ≤ x6_2) = true := decide_eq_true c14
                clear c14
                by_cases c15 : x6_2 < (l0.length : Int)
                · rw [if_pos c15] at H
                  have c15b0 : decide (x6_2 < (l0.length : Int)) = true := decide_eq_true c15
                  clear c15
                  replace H := Option.bind_eq_some_iff.mp H
                  obtain ⟨t228, A160, H⟩ := H
                  replace H : (if t228 = true then (if 0 ≤ (wrap64 ((wrap64 (x6_2 * (l0.length : Int))) + x6_2)) then (if (wrap64 ((wrap64 (x6_2 * (l0.length : Int))) + x6_2)) < (x227002_2.length : Int) then (alidaderef03_Diag.l0 k2 l0 (l0.length : Int) (wrap64 (x6_2 + 1)) t221 t222 (x227002_2.set ((wrap64 ((wrap64 (x6_2 * (l0.length : Int))) + x6_2)) : Int).toNat (rd l0 x6_2))) else (none)) else (none)) else (some (0, 0, ([] : List Int), 1))) = some (r1, r2, r3, r4) := H
                  have A16 := Aside0.mk A160
                  clear A160
                  by_cases c17 : t228 = true
                  · subst c17
                    have H1 : (if 0 ≤ (wrap64 ((wrap64 (x6_2 * (l0.length : Int))) + x6_2)) then (if (wrap64 ((wrap64 (x6_2 * (l0.length : Int))) + x6_2)) < (x227002_2.length : Int) then (alidaderef03_Diag.l0 k2 l0 (l0.length : Int) (wrap64 (x6_2 + 1)) t221 t222 (x227002_2.set ((wrap64 ((wrap64 (x6_2 * (l0.length : Int))) + x6_2)) : Int).toNat (rd l0 x6_2))) else (none)) else (none)) = some (r1, r2, r3, r4) := by rw [if_pos rfl] at H; exact H
                    clear H
                    have H := H1
                    clear H1
                    obtain ⟨ji18, hji18⟩ : ∃ j_ : Int, (wrap64 ((wrap64 (x6_2 * (l0.length : Int))) + x6_2)) = j_ := ⟨_, rfl⟩
                    replace H : (if 0 ≤ (ji18) then (if (ji18) < (x227002_2.length : Int) then (alidaderef03_Diag.l0 k2 l0 (l0.length : Int) (wrap64 (x6_2 + 1)) t221 t222 (x227002_2.set ((ji18) : Int).toNat (rd l0 x6_2))) else (none)) else (none)) = some (r1, r2, r3, r4) := by first | (rw [hji18] at H; exact H) | (simp only [hji18] at H ⊢; exact H)
                    (try rw [hji18] at A16)
                    have hji18w : (IntKind.i64.wrap ((wrap64 (x6_2 * (l0.length : Int))) + x6_2)) = ji18 := (i64_w _).trans hji18
                    by_cases c19 : 0 ≤ (ji18)
                    · rw [if_pos c19] at H
                      have c19b0 : decide (0 ≤ (ji18)) = true := decide_eq_true c19
                      clear c19
                      by_cases c20 : (ji18) < (x227002_2.length : Int)
                      · rw [if_pos c20] at H
                        have c20b0 : decide ((ji18) < (x227002_2.length : Int)) = true := decide_eq_true c20
                        clear c20
                        obtain ⟨y230, hy230⟩ : ∃ y_ : List Int, y_ = (x227002_2.set ((ji18) : Int).toNat (rd l0 x6_2)) := ⟨_, rfl⟩
                        replace H : (alidaderef03_Diag.l0 k2 l0 (l0.length : Int) (wrap64 (x6_2 + 1)) t221 t222 y230) = some (r1, r2, r3, r4) := by first | (rw [hy230]; with_reducible exact H) | (have H2_ := (Option.bind_some _ _).symm.trans H; rw [hy230]; with_reducible exact H2_) | (have H2_ := (Option.bind_some _ _).symm.trans H; with_reducible exact H2_) | with_reducible exact H | (rw [hy230]; exact H) | exact H
                        have Ny230 := Aside0.mk hy230
                        clear hy230
                        have H' := Aside0.mk H
                        clear H
                        have p227 : 0 ≤ (x6_2 : Int) := of_decide_eq_true (by first | (with_reducible assumption) | assumption)
                        have q227 : x6_2 < (l0.length : Int) := of_decide_eq_true (by first | (with_reducible assumption) | assumption)
                        obtain ⟨ad227, e227, hx227_0⟩ := Kd.at_int HR0.out x6_2 p227 q227
                        cases e227
                        replace hx227_0 := (HB.out.cell (World.block_lt_of_cell? w _ hx227_0)).trans hx227_0
                        replace p227 := eq_true p227
                        replace q227 := eq_true q227
                        try go_wp2_with (first | ((with_reducible refine gate_callee (f := 37) rfl ?_); refine goesL_ (some 29) rfl rfl Try.func37 (by kernel_rfl) rfl #[.int .i64 (rd l0 x6_2)] rfl (by (try simp only [List.map_toArray, List.map_cons, List.map_nil]); first | done | rfl | (simp only [List.length_drop, List.length_take]; rfl)) ?_; (with_reducible refine (alidaderef01_In.calls (rd l0 x6_2) true _ A16.out).mono ?_); rintro e w' ⟨rfl, ⟨nd, rfl⟩⟩; refine ⟨_, rfl, ?_⟩; (try (rw [drewN_self wr]; generalize hq_ : World.drewN wr _ = wr; have n0_ : Aside0 (Kd.R (Kd.int .i64) 22 wr w.heap.size (fun _ => True) u227002 x227002_2) := ⟨by rw [← hq_]; exact (by (with_reducible repeat (first | apply Kd.R_alloc | apply Kd.R_drewN | apply Kd.R_drew)); exact HO_227002.out)⟩; have n1_ : Aside0 (wr.heap[gb220]? = some (.cells #[.int .i64 x221000_2, .int .i64 x221001_2, .slice none 0 0] 26 (0, 0))) := ⟨by rw [← hq_]; exact (by (with_reducible repeat (first | refine blk_drewN ?_ _ | refine blk_drew ?_ | refine blk_alloc ?_ _)); exact BK220.out)⟩; have n2_ : Aside0 (wr.heap[gb226]? = some (.cells #[.int .i64 t221, .int .i64 t222, u227002] 26 (0, 0))) := ⟨by rw [← hq_]; exact (by (with_reducible repeat (first | refine blk_drewN ?_ _ | refine blk_drew ?_ | refine blk_alloc ?_ _)); exact BK226.out)⟩; have n3_ : Aside0 (Below w.heap.size w wr) := ⟨by rw [← hq_]; exact (by repeat (first | (with_reducible first | exact HB.out | apply below_alloc | apply pw_below_drewN | apply below_drew1 | refine below_set ?_ GE220.out | refine below_set ?_ GE226.out) | exact HB.out))⟩; clear HO_227002 BK220 BK226 HB hq_; have HO_227002 := n0_; have BK220 := n1_; have BK226 := n2_; have HB := n3_; clear n0_ n1_ n2_ n3_))))
                        have n0_ := Aside0.mk (Kd.R_drew HO_227002.out)
                        have n1_ := Aside0.mk (blk_drew BK220.out)
                        have n2_ := Aside0.mk (blk_drew BK226.out)
                        have n3_ := Aside0.mk (below_drew1 HB.out)
                        clear HO_227002
                        clear BK220
                        clear BK226
                        clear HB
                        have HO_227002 := n0_
                        have BK220 := n1_
                        have BK226 := n2_
                        have HB := n3_
                        clear n0_ n1_ n2_ n3_
                        have p229 : 0 ≤ (x6_2 : Int) := of_decide_eq_true (by first | (with_reducible assumption) | assumption)
                        have q229 : x6_2 < (l0.length : Int) := of_decide_eq_true (by first | (with_reducible assumption) | assumption)
                        obtain ⟨ad229, e229, hx229_0⟩ := Kd.at_int HR0.out x6_2 p229 q229
                        have hw229_0 := hx229_0
                        obtain rfl : ad227 = ad229 := (by injection e229)
                        replace hx229_0 := (HB.out.cell (World.block_lt_of_cell? w _ hx229_0)).trans hx229_0
                        replace p229 := eq_true p229
                        replace q229 := eq_true q229
                        have p21 : 0 ≤ ((ji18) : Int) := of_decide_eq_true (by first | (with_reducible assumption) | assumption)
                        have q21 : ((ji18) : Int) < ((x227002_2.length : Int) : Int) := of_decide_eq_true (by first | (with_reducible assumption) | assumption)
                        obtain ⟨go21, co21, eo21, gb21, gl21, cl21, HG21⟩ := Kd.R_form HO_227002.out (by omega)
                        (first | cases eo21 | (injection eo21 with ea_ en_ ec_; (first | subst ea_ | (injection ea_ with ea_; subst ea_)); subst ec_; clear en_))
                        have GB21 := Aside0.mk gb21
                        have GG21 := Aside0.mk HG21
                        clear gb21 gl21 HG21
                        obtain ⟨hx21_0, hf21_0⟩ := Kd.R_celln 0 HO_227002.out ((ji18) : Int) p21 q21
                        replace p21 := eq_true p21
                        replace q21 := eq_true q21
                        have HP23 := Kd.R_putn HO_227002.out ((ji18) : Int) (rd l0 x6_2)
                        rw [← Ny230.out] at HP23
                        have HQ23 := Aside0.mk HP23
                        clear HP23
                        refine start_ (n := 13) (S := fun w' => w'.cell? ⟨gb226, 0, none⟩ = some (.int .i64 t221) ∧ w'.cell? ⟨gb226, 1, none⟩ = some (.int .i64 t222) ∧ w'.cell? ⟨gb226, 2, none⟩ = some (.slice (some ⟨go21, 0, none⟩) x227002_2.length co21) ∧ w'.cell? (ad227.add (x6_2).toNat) = some (.int .i64 (rd l0 x6_2))) (ds := [12]) #[false, false, false, false, false, false, false, false, false, false, false, false, false] (by kernel_rfl) rfl rfl ⟨(blk_cell BK226.out 0).trans rfl, (blk_cell BK226.out 1).trans rfl, (blk_cell BK226.out 2).trans rfl, ((HB.out.cell (World.block_lt_of_cell? w _ hw229_0)).trans hw229_0)⟩ (fun hHeld => ?_); refine with_tabW alidaderef03_Diag.tab11 alidaderef03_Diag.bits11 (fun HT_ HW_ => ?_)
                        generalize wr.drew = w22 at HO_227002 BK220 BK226 HB GG21 HQ23 hf21_0 hx21_0 hx229_0 hHeld ⊢
                        refine pure_ (i := 0) (N := some 33) (v := ?_) (a' := ?_) #[true, false, false, false, false, false, false, false, false, false, false, false, false] rfl rfl (any_of HT_.out (by kernel_rfl)) (fun _ _ _ h => h) (Or.inl ⟨by rfl, ?_⟩) ?_ ?_
                        rotate_left
                        · intro w'
                          go_simp
                          with_reducible rfl
                        rotate_left
                        · simp only [Act.put, List.setIfInBounds_toArray, List.set_cons_zero, List.set_cons_succ, i64_w, i32_w]
                          rfl
                        refine pure_ (i := 2) (N := some 35) (v := ?_) (a' := ?_) #[true, false, true, false, false, false, false, false, false, false, false, false, false] rfl rfl (any_of HT_.out (by kernel_rfl)) (fun _ _ _ h => h) (Or.inl ⟨by rfl, ?_⟩) ?_ ?_
                        rotate_left
                        · intro w'
                          go_simp
                          with_reducible rfl
                        rotate_left
                        · simp only [Act.put, List.setIfInBounds_toArray, List.set_cons_zero, List.set_cons_succ, i64_w, i32_w]
                          rfl
                        refine pure_ (i := 3) (N := some 36) (v := ?_) (a' := ?_) #[true, false, true, true, false, false, false, false, false, false, false, false, false] rfl rfl (any_of HT_.out (by kernel_rfl)) (fun _ _ _ h => h) (Or.inl ⟨by rfl, ?_⟩) ?_ ?_
                        rotate_left
                        · intro w'
                          go_simp
                          with_reducible rfl
                        rotate_left
                        · simp only [Act.put, List.setIfInBounds_toArray, List.set_cons_zero, List.set_cons_succ, i64_w, i32_w]
                          rfl
                        refine pure_ (i := 4) (N := some 37) (v := ?_) (a' := ?_) #[true, false, true, true, true, false, false, false, false, false, false, false, false] rfl rfl (any_of HT_.out (by kernel_rfl)) (fun _ _ _ h => h) (Or.inl ⟨by rfl, ?_⟩) ?_ ?_
                        rotate_left
                        · intro w'
                          go_simp
                          with_reducible rfl
                        rotate_left
                        · simp only [Act.put, List.setIfInBounds_toArray, List.set_cons_zero, List.set_cons_succ, i64_w, i32_w]
                          rfl
                        refine pure_ (i := 5) (N := some 38) (v := ?_) (a' := ?_) #[true, false, true, true, true, true, false, false, false, false, false, false, false] rfl rfl (any_of HT_.out (by kernel_rfl)) (fun _ _ _ h => h) (Or.inl ⟨by rfl, ?_⟩) ?_ ?_
                        rotate_left
                        · intro w'
                          go_simp
                          with_reducible rfl
                        rotate_left
                        · simp only [Act.put, List.setIfInBounds_toArray, List.set_cons_zero, List.set_cons_succ, i64_w, i32_w]
                          rfl
                        refine pure_ (i := 6) (N := some 39) (v := ?_) (a' := ?_) #[true, false, true, true, true, true, true, false, false, false, false, false, false] rfl rfl (any_of HT_.out (by kernel_rfl)) (fun _ _ _ h => h) (Or.inl ⟨by rfl, ?_⟩) ?_ ?_
                        rotate_left
                        · intro w'
                          go_simp
                          with_reducible rfl
                        rotate_left
                        · simp only [Act.put, List.setIfInBounds_toArray, List.set_cons_zero, List.set_cons_succ, i64_w, i32_w]
                          rfl
                        refine pure_ (i := 7) (N := some 40) (v := ?_) (a' := ?_) #[true, false, true, true, true, true, true, true, false, false, false, false, false] rfl rfl (any_of HT_.out (by kernel_rfl)) (fun _ _ _ h => h) (Or.inl ⟨by rfl, ?_⟩) ?_ ?_
                        rotate_left
                        · intro w'
                          go_simp
                          with_reducible rfl
                        rotate_left
                        · simp only [Act.put, List.setIfInBounds_toArray, List.set_cons_zero, List.set_cons_succ, i64_w, i32_w]
                          rfl
                        refine pure_ (i := 8) (N := some 41) (v := ?_) (a' := ?_) #[true, false, true, true, true, true, true, true, true, false, false, false, false] rfl rfl (any_of HT_.out (by kernel_rfl)) (fun _ _ _ h => h) (Or.inl ⟨by rfl, ?_⟩) ?_ ?_
                        rotate_left
                        · intro w'
                          go_simp
                          with_reducible rfl
                        rotate_left
                        · simp only [Act.put, List.setIfInBounds_toArray, List.set_cons_zero, List.set_cons_succ, i64_w, i32_w]
                          rfl
                        refine pure_ (i := 9) (N := some 42) (v := ?_) (a' := ?_) #[true, false, true, true, true, true, true, true, true, true, false, false, false] rfl rfl (any_of HT_.out (by kernel_rfl)) (fun _ _ _ h => h) (Or.inl ⟨by rfl, ?_⟩) ?_ ?_
                        rotate_left
                        · intro w'
                          go_simp
                          with_reducible rfl
                        rotate_left
                        · simp only [Act.put, List.setIfInBounds_toArray, List.set_cons_zero, List.set_cons_succ, i64_w, i32_w]
                          rfl
                        refine take_ (i := 1) (N := some 34) (v := ?_) (a' := ?_) #[true, true, true, true, true, true, true, true, true, true, false, false, false] rfl rfl (take_ofW HT_.out HW_.out (by kernel_rfl)) (fun _ _ _ h => h) (Or.inl ⟨by rfl, ?_⟩) hHeld ?_ ?_
                        rotate_left
                        · rintro w' ⟨s0, s1, s2, s3⟩
                          go_simp
                          with_reducible rfl
                        rotate_left
                        · simp only [Act.put, List.setIfInBounds_toArray, List.set_cons_zero, List.set_cons_succ, i64_w, i32_w]
                          rfl
                        refine take_ (i := 10) (N := some 43) (v := ?_) (a' := ?_) #[true, true, true, true, true, true, true, true, true, true, true, false, false] rfl rfl (take_ofW HT_.out HW_.out (by kernel_rfl)) (fun _ _ _ h => h) (Or.inl ⟨by rfl, ?_⟩) hHeld ?_ ?_
                        rotate_left
                        · rintro w' ⟨s0, s1, s2, s3⟩
                          go_simp
                          with_reducible rfl
                        rotate_left
                        · simp only [Act.put, List.setIfInBounds_toArray, List.set_cons_zero, List.set_cons_succ, i64_w, i32_w]
                          rfl
                        refine pure_ (i := 11) (N := some 44) (v := ?_) (a' := ?_) #[true, true, true, true, true, true, true, true, true, true, true, true, false] rfl rfl (any_of HT_.out (by kernel_rfl)) (fun _ _ _ h => h) (Or.inl ⟨by rfl, ?_⟩) ?_ ?_
                        rotate_left
                        · intro w'
                          go_simp
                          with_reducible rfl
                        rotate_left
                        · simp only [Act.put, List.setIfInBounds_toArray, List.set_cons_zero, List.set_cons_succ, i64_w, i32_w]
                          rfl
                        refine last_ (i := 12) (N := none) #[true, true, true, true, true, true, true, true, true, true, true, true, true] rfl rfl (one_of HT_.out (by kernel_rfl)) (by decide) (fun K hK => ?_)
                        refine skip_ (w1 := ?_) (by rfl) rfl ?_ ?_
                        rotate_left
                        · go_simp
                          rfl
                        refine hK.out _ _ ?_
                        clear hK K
                        refine done_ (done_of HT_.out (by kernel_rfl)) ?_
                        try go_wp2
                        go_roundg k2
                        case measure => have := HJ1.out; have := HK2.out; omega
                        case rel => exact ⟨(wrap64 (x6_2 + 1)), (x221000_2), (x221001_2), (y230), (.slice (some ⟨go21, 0, none⟩) x227002_2.length co21), (by first | rfl | (simp; done) | (simp [*]; done)), H', ⟨by have := HJ1.out; have := HK2.out; omega⟩, ⟨by (with_reducible repeat (first | apply Kd.R_alloc | apply Kd.R_drewN | apply Kd.R_drew)); exact HQ23.out⟩, ⟨by (with_reducible repeat (first | refine blk_drewN ?_ _ | refine blk_drew ?_ | refine blk_alloc ?_ _)); refine blk_far ?_ (by have h_ := Kd.R_ne HO_227002.out BK220.out (by decide); intro e_; exact h_ (by rw [e_]; rfl)) _; (with_reducible repeat (first | refine blk_drewN ?_ _ | refine blk_drew ?_ | refine blk_alloc ?_ _)); exact BK220.out⟩, ⟨by (with_reducible repeat (first | refine blk_drewN ?_ _ | refine blk_drew ?_ | refine blk_alloc ?_ _)); refine blk_far ?_ (by have h_ := Kd.R_ne HO_227002.out BK226.out (by decide); intro e_; exact h_ (by rw [e_]; rfl)) _; (with_reducible repeat (first | refine blk_drewN ?_ _ | refine blk_drew ?_ | refine blk_alloc ?_ _)); exact BK226.out⟩, ⟨by repeat (first | (with_reducible first | exact HB.out | apply below_alloc | apply pw_below_drewN | apply below_drew1 | refine below_set ?_ GB21.out | refine below_set ?_ GE220.out | refine below_set ?_ GE226.out) | exact HB.out)⟩⟩
                      · rw [if_neg c20] at H
                        exact absurd H (by simp)
                    · rw [if_neg c19] at H
                      exact absurd H (by simp)
                  · replace c17 := Bool.eq_false_iff.mpr c17
                    subst c17
                    have H1 : (some (0, 0, ([] : List Int), 1)) = some (r1, r2, r3, r4) := by rw [if_neg (show ¬ (false = true) by decide)] at H; exact H
                    clear H
                    have H := H1
                    clear H1
                    simp only [Option.some.injEq, Prod.mk.injEq] at H
                    obtain ⟨rfl, rfl, rfl, rfl⟩ := H
                    have p227 : 0 ≤ (x6_2 : Int) := of_decide_eq_true (by first | (with_reducible assumption) | assumption)
                    have q227 : x6_2 < (l0.length : Int) := of_decide_eq_true (by first | (with_reducible assumption) | assumption)
                    obtain ⟨ad227, e227, hx227_0⟩ := Kd.at_int HR0.out x6_2 p227 q227
                    cases e227
                    replace hx227_0 := (HB.out.cell (World.block_lt_of_cell? w _ hx227_0)).trans hx227_0
                    replace p227 := eq_true p227
                    replace q227 := eq_true q227
                    go_wp2_with (first | ((with_reducible refine gate_callee (f := 37) rfl ?_); refine goesL_ (some 29) rfl rfl Try.func37 (by kernel_rfl) rfl #[.int .i64 (rd l0 x6_2)] rfl (by (try simp only [List.map_toArray, List.map_cons, List.map_nil]); first | done | rfl | (simp only [List.length_drop, List.length_take]; rfl)) ?_; (with_reducible refine (alidaderef01_In.calls (rd l0 x6_2) false _ A16.out).mono ?_); rintro e w' ⟨rfl, ⟨nd, rfl⟩⟩; refine ⟨_, rfl, ?_⟩; (try (rw [drewN_self wr]; generalize hq_ : World.drewN wr _ = wr; have n0_ : Aside0 (Kd.R (Kd.int .i64) 22 wr w.heap.size (fun _ => True) u227002 x227002_2) := ⟨by rw [← hq_]; exact (by (with_reducible repeat (first | apply Kd.R_alloc | apply Kd.R_drewN | apply Kd.R_drew)); exact HO_227002.out)⟩; have n1_ : Aside0 (wr.heap[gb220]? = some (.cells #[.int .i64 x221000_2, .int .i64 x221001_2, .slice none 0 0] 26 (0, 0))) := ⟨by rw [← hq_]; exact (by (with_reducible repeat (first | refine blk_drewN ?_ _ | refine blk_drew ?_ | refine blk_alloc ?_ _)); exact BK220.out)⟩; have n2_ : Aside0 (wr.heap[gb226]? = some (.cells #[.int .i64 t221, .int .i64 t222, u227002] 26 (0, 0))) := ⟨by rw [← hq_]; exact (by (with_reducible repeat (first | refine blk_drewN ?_ _ | refine blk_drew ?_ | refine blk_alloc ?_ _)); exact BK226.out)⟩; have n3_ : Aside0 (Below w.heap.size w wr) := ⟨by rw [← hq_]; exact (by repeat (first | (with_reducible first | exact HB.out | apply below_alloc | apply pw_below_drewN | apply below_drew1 | refine below_set ?_ GE220.out | refine below_set ?_ GE226.out) | exact HB.out))⟩; clear HO_227002 BK220 BK226 HB hq_; have HO_227002 := n0_; have BK220 := n1_; have BK226 := n2_; have HB := n3_; clear n0_ n1_ n2_ n3_)); have hnb24 := NB220_226.out; have hnc24 := NB226_220.out; have hcz25_0 : wr.cell? ⟨gb220, 0, none⟩ = some (.int .i64 x221000_2) := (blk_cell BK220.out 0).trans rfl; have hcz25_1 : wr.cell? ⟨gb220, 1, none⟩ = some (.int .i64 x221001_2) := (blk_cell BK220.out 1).trans rfl; have hcz25_2 : wr.cell? ⟨gb220, 2, none⟩ = some (.slice none 0 0) := (blk_cell BK220.out 2).trans rfl; have hfz25_0 := blk_frozen BK220.out 0; have hfz25_1 := blk_frozen BK220.out 1; have hfz25_2 := blk_frozen BK220.out 2))
                    refine bodyPost_ret (results_ct rfl _ _ gb220 26 #[.int .i64 0, .int .i64 0, .slice none 0 0] (0, 0) _ rfl (by (with_reducible repeat (first | refine blk_drewN ?_ _ | refine blk_drew ?_ | refine blk_alloc ?_ _)); refine blk_put (cs := #[.int .i64 0, .int .i64 0, .slice none 0 0]) ?_ 2 _ rfl; (with_reducible repeat (first | refine blk_drewN ?_ _ | refine blk_drew ?_ | refine blk_alloc ?_ _)); refine blk_put (cs := #[.int .i64 0, .int .i64 x221001_2, .slice none 0 0]) ?_ 1 _ rfl; (with_reducible repeat (first | refine blk_drewN ?_ _ | refine blk_drew ?_ | refine blk_alloc ?_ _)); refine blk_put (cs := #[.int .i64 x221000_2, .int .i64 x221001_2, .slice none 0 0]) ?_ 0 _ rfl; (with_reducible repeat (first | refine blk_drewN ?_ _ | refine blk_drew ?_ | refine blk_alloc ?_ _)); exact BK220.out) Try.underlying26 rfl (by kernel_rfl)) rfl ?_
                    exact ⟨_, by first | rfl | (simp [errW_none, errW_some] <;> rfl) | (simp [*, errW_none, errW_some] <;> rfl), by first | exact Kd.R_nil _ _ _ _ _ | exact Kd.N_nil _ _ _ _ _ | exact Kd.V_nil _ _ _ _ _ | exact Kd.Q_nil _ _ _ _ _ | exact Kd.S_nil _ _ _ _ _, by repeat (first | (with_reducible first | exact HB.out | apply below_alloc | apply pw_below_drewN | apply below_drew1 | refine below_set ?_ GE220.out | refine below_set ?_ GE226.out) | exact HB.out)⟩
                · rw [if_neg c15] at H
                  exact absurd H (by simp)
              · rw [if_neg c14] at H
                exact absurd H (by simp)
            · rw [if_neg c13] at H
              have c13b0 : decide (x6_2 < (l0.length : Int)) = false := decide_eq_false c13
              clear c13
              simp only [Option.some.injEq, Prod.mk.injEq] at H
              obtain ⟨rfl, rfl, rfl, rfl⟩ := H
              have hnb26 := NB226_220.out
              have hnc26 := NB220_226.out
              have hcz27_0 : wr.cell? ⟨gb226, 0, none⟩ = some (.int .i64 t221) := (blk_cell BK226.out 0).trans rfl
              have hcz27_1 : wr.cell? ⟨gb226, 1, none⟩ = some (.int .i64 t222) := (blk_cell BK226.out 1).trans rfl
              have hcz27_2 : wr.cell? ⟨gb226, 2, none⟩ = some (u227002) := (blk_cell BK226.out 2).trans rfl
              have hfz27_0 := blk_frozen BK226.out 0
              have hfz27_1 := blk_frozen BK226.out 1
              have hfz27_2 := blk_frozen BK226.out 2
              have hcz28_0 : wr.cell? ⟨gb220, 0, none⟩ = some (.int .i64 x221000_2) := (blk_cell BK220.out 0).trans rfl
              have hcz28_1 : wr.cell? ⟨gb220, 1, none⟩ = some (.int .i64 x221001_2) := (blk_cell BK220.out 1).trans rfl
              have hcz28_2 : wr.cell? ⟨gb220, 2, none⟩ = some (.slice none 0 0) := (blk_cell BK220.out 2).trans rfl
              have hfz28_0 := blk_frozen BK220.out 0
              have hfz28_1 := blk_frozen BK220.out 1
              have hfz28_2 := blk_frozen BK220.out 2
              obtain ⟨Ao29, co29, eo29⟩ := Kd.R_slice HO_227002.out
              subst eo29
              go_wp2
              refine bodyPost_ret (results_ct rfl _ _ gb220 26 #[.int .i64 t221, .int .i64 t222, .slice Ao29 x227002_2.length co29] (0, 0) _ rfl (by (with_reducible repeat (first | refine blk_drewN ?_ _ | refine blk_drew ?_ | refine blk_alloc ?_ _)); refine blk_put (cs := #[.int .i64 t221, .int .i64 t222, .slice none 0 0]) ?_ 2 _ rfl; (with_reducible repeat (first | refine blk_drewN ?_ _ | refine blk_drew ?_ | refine blk_alloc ?_ _)); refine blk_put (cs := #[.int .i64 t221, .int .i64 x221001_2, .slice none 0 0]) ?_ 1 _ rfl; (with_reducible repeat (first | refine blk_drewN ?_ _ | refine blk_drew ?_ | refine blk_alloc ?_ _)); refine blk_put (cs := #[.int .i64 x221000_2, .int .i64 x221001_2, .slice none 0 0]) ?_ 0 _ rfl; (with_reducible repeat (first | refine blk_drewN ?_ _ | refine blk_drew ?_ | refine blk_alloc ?_ _)); exact BK220.out) Try.underlying26 rfl (by kernel_rfl)) rfl ?_
              exact ⟨_, by first | rfl | (simp [errW_none, errW_some] <;> rfl) | (simp [*, errW_none, errW_some] <;> rfl), by (with_reducible repeat (first | apply Kd.R_alloc | apply Kd.R_drewN | apply Kd.R_drew)); exact Kd.R_mono (Kd.R_far (p := ⟨gb220, 2, none⟩) (Kd.R_far (p := ⟨gb220, 1, none⟩) (Kd.R_far (p := ⟨gb220, 0, none⟩) (Kd.R_types HO_227002.out BK220.out (by decide)) (fun _ hk => hk.2) (.int .i64 t221)) (fun _ hk => hk.2) (.int .i64 t222)) (fun _ hk => hk.2) (.slice Ao29 x227002_2.length co29)) (fun _ hk => trivial), by repeat (first | (with_reducible first | exact HB.out | apply below_alloc | apply pw_below_drewN | apply below_drew1 | refine below_set ?_ GE220.out | refine below_set ?_ GE226.out) | exact HB.out)⟩

end Go.Proofs.Ytninmcmajbfccaa.PQ

-- Laid by a program of this session's own (wip/print-patch.py over the kit's print), out of the translation; Lean checks it.
namespace Go.Proofs.Ytninmcmajbfccaa.PQ
open Go.RowKit Go.Proofs.YtninmcmajbfccaaW.PrintWords Go.Proofs.YtninmcmajbfccaaW.PrintLast Go.Proofs.YtninmcmajbfccaaW.PrintMore
attribute [local go_sem] max2_int min2_int max_two min_two max_three min_three max_four min_four   -- for this text's walks alone
set_option linter.unusedVariables false
set_option linter.unusedSimpArgs false

/-! ### alidaderef05_New: function 20 -/
/-! ### alidaderef05_Same: function 21 -/
def alidaderef05_Same.f (k : Nat) (a0_0 : Int) (a0_1 : Int) (l0_2 : List Int) (a0_3 : Int) (a0_4 : Int) (l0_5 : List Int) (a1_0 : Int) (a1_1 : Int) (l1_2 : List Int) (a1_3 : Int) (a1_4 : Int) (l1_5 : List Int) : Option (Bool) := (alidaderef03_Same.f k a0_0 a0_1 l0_2 a1_0 a1_1 l1_2).bind fun t250 => (if t250 = true then ((alidaderef03_Same.f k a0_3 a0_4 l0_5 a1_3 a1_4 l1_5).bind fun t251 => (some t251)) else (some false))
set_option maxHeartbeats 8000000 in
set_option maxRecDepth 100000 in
theorem alidaderef05_Same.calls (k : Nat) (a0_0 : Int) (a0_1 : Int) (A0_2 : Option Addr) (c0_2 : Nat) (l0_2 : List Int) (a0_3 : Int) (a0_4 : Int) (A0_5 : Option Addr) (c0_5 : Nat) (l0_5 : List Int) (a1_0 : Int) (a1_1 : Int) (A1_2 : Option Addr) (c1_2 : Nat) (l1_2 : List Int) (a1_3 : Int) (a1_4 : Int) (A1_5 : Option Addr) (c1_5 : Nat) (l1_5 : List Int) (r : Bool) (w : World) (hr0_2 : Kd.C (Kd.int .i64) w A0_2 l0_2.length l0_2) (hc0_2 : l0_2.length ≤ c0_2) (hr0_5 : Kd.C (Kd.int .i64) w A0_5 l0_5.length l0_5) (hc0_5 : l0_5.length ≤ c0_5) (hr1_2 : Kd.C (Kd.int .i64) w A1_2 l1_2.length l1_2) (hc1_2 : l1_2.length ≤ c1_2) (hr1_5 : Kd.C (Kd.int .i64) w A1_5 l1_5.length l1_5) (hc1_5 : l1_5.length ≤ c1_5) (h : alidaderef05_Same.f k a0_0 a0_1 l0_2 a0_3 a0_4 l0_5 a1_0 a1_1 l1_2 a1_3 a1_4 l1_5 = some r) :
    Calls Try.prog 21 #[.agg #[.int .i64 a0_0, .int .i64 a0_1, .slice A0_2 l0_2.length c0_2, .int .i64 a0_3, .int .i64 a0_4, .slice A0_5 l0_5.length c0_5], .agg #[.int .i64 a1_0, .int .i64 a1_1, .slice A1_2 l1_2.length c1_2, .int .i64 a1_3, .int .i64 a1_4, .slice A1_5 l1_5.length c1_5]] w fun e w' => e = .returned (.bool r) ∧ Below w.heap.size w w' := by
  have hu28 := Try.underlying28
  have hu26 := Try.underlying26
  have HR0_2 := Aside0.mk hr0_2
  have HC0_2 := Aside0.mk hc0_2
  clear hr0_2 hc0_2
  have HR0_5 := Aside0.mk hr0_5
  have HC0_5 := Aside0.mk hc0_5
  clear hr0_5 hc0_5
  have HR1_2 := Aside0.mk hr1_2
  have HC1_2 := Aside0.mk hc1_2
  clear hr1_2 hc1_2
  have HR1_5 := Aside0.mk hr1_5
  have HC1_5 := Aside0.mk hc1_5
  clear hr1_5 hc1_5
  have HB := Aside0.mk (Below.refl w.heap.size w)
  have H : ((alidaderef03_Same.f k a0_0 a0_1 l0_2 a1_0 a1_1 l1_2).bind fun t250 => (if t250 = true then ((alidaderef03_Same.f k a0_3 a0_4 l0_5 a1_3 a1_4 l1_5).bind fun t251 => (some t251)) else (some false))) = some r := h
  clear h
  replace H := Option.bind_eq_some_iff.mp H
  obtain ⟨t250, A30, H⟩ := H
  replace H : (if t250 = true then ((alidaderef03_Same.f k a0_3 a0_4 l0_5 a1_3 a1_4 l1_5).bind fun t251 => (some t251)) else (some false)) = some r := H
  have A3 := Aside0.mk A30
  clear A30
  by_cases c4 : t250 = true
  · subst c4
    have H1 : ((alidaderef03_Same.f k a0_3 a0_4 l0_5 a1_3 a1_4 l1_5).bind fun t251 => (some t251)) = some r := by rw [if_pos rfl] at H; exact H
    clear H
    have H := H1
    clear H1
    replace H := Option.bind_eq_some_iff.mp H
    obtain ⟨t251, A50, H⟩ := H
    replace H : (some t251) = some r := H
    have A5 := Aside0.mk A50
    clear A50
    obtain rfl := Option.some.inj H
    go_enter Try.func21, Try.ntmps21
    go_wp2_with (first | ((with_reducible refine gate_dst (N := 2) rfl ?_); refine box_event ?hg (N := 2) ?hd (cs := #[.int .i64 a0_0, .int .i64 a0_1, .slice A0_2 l0_2.length c0_2, .int .i64 a0_3, .int .i64 a0_4, .slice A0_5 l0_5.length c0_5]) (t := 28) ?hr ?_; (case hd => rfl); (case hg => rfl); (case hr => first | (go_simp; done) | (go_simp; rfl)); intro gb248 hg w6 hbox hb; have n0_ := Aside0.mk (below_step (by repeat (first | (with_reducible first | exact HB.out | apply below_alloc | apply pw_below_drewN | apply below_drew1) | exact HB.out)) hb); have n1_ := Aside0.mk (hbox); have n2_ := Aside0.mk ((by rw [hg]; exact (below_size (by repeat (first | (with_reducible first | exact HB.out | apply below_alloc | apply pw_below_drewN | apply below_drew1) | exact HB.out))) : w.heap.size ≤ gb248)); have n3_ := Aside0.mk ((by rw [hg]; exact (below_size (by repeat (first | (with_reducible first | exact HB.out | apply below_alloc | apply pw_below_drewN | apply below_drew1) | exact HB.out))) : w.heap.size ≤ gb248)); clear HB; have HB := n0_; have BK248 := n1_; have GW248 := n2_; have GE248 := n3_; clear n0_ n1_ n2_ n3_; clear hb hbox hg) | ((with_reducible refine gate_dst (N := 3) rfl ?_); refine box_event ?hg (N := 3) ?hd (cs := #[.int .i64 a1_0, .int .i64 a1_1, .slice A1_2 l1_2.length c1_2, .int .i64 a1_3, .int .i64 a1_4, .slice A1_5 l1_5.length c1_5]) (t := 28) ?hr ?_; (case hd => rfl); (case hg => rfl); (case hr => first | (go_simp; done) | (go_simp; rfl)); intro gb249 hg w7 hbox hb; have n0_ := Aside0.mk (blk_below (g := gb248) (o := .cells #[.int .i64 a0_0, .int .i64 a0_1, .slice A0_2 l0_2.length c0_2, .int .i64 a0_3, .int .i64 a0_4, .slice A0_5 l0_5.length c0_5] 28 (0, 0)) (by (with_reducible repeat (first | refine blk_drewN ?_ _ | refine blk_drew ?_ | refine blk_alloc ?_ _)); exact BK248.out) hb); have n1_ := Aside0.mk (below_step (by repeat (first | (with_reducible first | exact HB.out | apply below_alloc | apply pw_below_drewN | apply below_drew1 | refine below_set ?_ GE248.out) | exact HB.out)) hb); have n2_ := Aside0.mk (hbox); have n3_ := Aside0.mk ((by rw [hg]; exact (below_size (by repeat (first | (with_reducible first | exact HB.out | apply below_alloc | apply pw_below_drewN | apply below_drew1 | refine below_set ?_ GE248.out) | exact HB.out))) : w.heap.size ≤ gb249)); have n4_ := Aside0.mk ((by rw [hg]; exact (below_size (by repeat (first | (with_reducible first | exact HB.out | apply below_alloc | apply pw_below_drewN | apply below_drew1 | refine below_set ?_ GE248.out) | exact HB.out))) : w.heap.size ≤ gb249)); have n5_ := Aside0.mk ((by rw [hg]; exact Nat.ne_of_lt (blk_lt (g := gb248) (o := .cells #[.int .i64 a0_0, .int .i64 a0_1, .slice A0_2 l0_2.length c0_2, .int .i64 a0_3, .int .i64 a0_4, .slice A0_5 l0_5.length c0_5] 28 (0, 0)) (by (with_reducible repeat (first | refine blk_drewN ?_ _ | refine blk_drew ?_ | refine blk_alloc ?_ _)); exact BK248.out)) : gb248 ≠ gb249)); have n6_ := Aside0.mk ((by rw [hg]; exact Nat.ne_of_gt (blk_lt (g := gb248) (o := .cells #[.int .i64 a0_0, .int .i64 a0_1, .slice A0_2 l0_2.length c0_2, .int .i64 a0_3, .int .i64 a0_4, .slice A0_5 l0_5.length c0_5] 28 (0, 0)) (by (with_reducible repeat (first | refine blk_drewN ?_ _ | refine blk_drew ?_ | refine blk_alloc ?_ _)); exact BK248.out)) : gb249 ≠ gb248)); clear BK248; clear HB; have BK248 := n0_; have HB := n1_; have BK249 := n2_; have GW249 := n3_; have GE249 := n4_; have NB248_249 := n5_; have NB249_248 := n6_; clear n0_ n1_ n2_ n3_ n4_ n5_ n6_; clear hb hbox hg; have hnb8 := NB248_249.out; have hnc8 := NB249_248.out; have hcz9_0 : w7.cell? ⟨gb248, 0, none⟩ = some (.int .i64 a0_0) := (blk_cell BK248.out 0).trans rfl; have hcz9_1 : w7.cell? ⟨gb248, 1, none⟩ = some (.int .i64 a0_1) := (blk_cell BK248.out 1).trans rfl; have hcz9_2 : w7.cell? ⟨gb248, 2, none⟩ = some (.slice A0_2 l0_2.length c0_2) := (blk_cell BK248.out 2).trans rfl; have hcz9_3 : w7.cell? ⟨gb248, 3, none⟩ = some (.int .i64 a0_3) := (blk_cell BK248.out 3).trans rfl; have hcz9_4 : w7.cell? ⟨gb248, 4, none⟩ = some (.int .i64 a0_4) := (blk_cell BK248.out 4).trans rfl; have hcz9_5 : w7.cell? ⟨gb248, 5, none⟩ = some (.slice A0_5 l0_5.length c0_5) := (blk_cell BK248.out 5).trans rfl; have hfz9_0 := blk_frozen BK248.out 0; have hfz9_1 := blk_frozen BK248.out 1; have hfz9_2 := blk_frozen BK248.out 2; have hfz9_3 := blk_frozen BK248.out 3; have hfz9_4 := blk_frozen BK248.out 4; have hfz9_5 := blk_frozen BK248.out 5; have hcz10_0 : w7.cell? ⟨gb249, 0, none⟩ = some (.int .i64 a1_0) := (blk_cell BK249.out 0).trans rfl; have hcz10_1 : w7.cell? ⟨gb249, 1, none⟩ = some (.int .i64 a1_1) := (blk_cell BK249.out 1).trans rfl; have hcz10_2 : w7.cell? ⟨gb249, 2, none⟩ = some (.slice A1_2 l1_2.length c1_2) := (blk_cell BK249.out 2).trans rfl; have hcz10_3 : w7.cell? ⟨gb249, 3, none⟩ = some (.int .i64 a1_3) := (blk_cell BK249.out 3).trans rfl; have hcz10_4 : w7.cell? ⟨gb249, 4, none⟩ = some (.int .i64 a1_4) := (blk_cell BK249.out 4).trans rfl; have hcz10_5 : w7.cell? ⟨gb249, 5, none⟩ = some (.slice A1_5 l1_5.length c1_5) := (blk_cell BK249.out 5).trans rfl; have hfz10_0 := blk_frozen BK249.out 0; have hfz10_1 := blk_frozen BK249.out 1; have hfz10_2 := blk_frozen BK249.out 2; have hfz10_3 := blk_frozen BK249.out 3; have hfz10_4 := blk_frozen BK249.out 4; have hfz10_5 := blk_frozen BK249.out 5) | ((with_reducible refine gate_callee (f := 19) rfl ?_); refine goesL_ (some 9) rfl rfl Try.func19 (by kernel_rfl) rfl #[.agg #[.int .i64 a0_0, .int .i64 a0_1, .slice A0_2 l0_2.length c0_2], .agg #[.int .i64 a1_0, .int .i64 a1_1, .slice A1_2 l1_2.length c1_2]] rfl (by (try simp only [List.map_toArray, List.map_cons, List.map_nil]); first | done | rfl | (simp only [List.length_drop, List.length_take]; rfl)) ?_; (with_reducible refine (alidaderef03_Same.calls k a0_0 a0_1 _ _ l0_2 a1_0 a1_1 _ _ l1_2 true _ ?side1 ?side2 ?side3 ?side4 A3.out).mono ?_); (case side1 => repeat (first | exact (Kd.C_below HR0_2.out HB.out) | (with_reducible refine Kd.C_alloc ?_ _) | (with_reducible refine Kd.C_drewN ?_ _) | (with_reducible refine Kd.C_drew ?_))); (case side2 => exact HC0_2.out); (case side3 => repeat (first | exact (Kd.C_below HR1_2.out HB.out) | (with_reducible refine Kd.C_alloc ?_ _) | (with_reducible refine Kd.C_drewN ?_ _) | (with_reducible refine Kd.C_drew ?_))); (case side4 => exact HC1_2.out); rintro e w11 ⟨rfl, hb⟩; refine ⟨_, rfl, ?_⟩; have n0_ := Aside0.mk (blk_below (g := gb248) (o := .cells #[.int .i64 a0_0, .int .i64 a0_1, .slice A0_2 l0_2.length c0_2, .int .i64 a0_3, .int .i64 a0_4, .slice A0_5 l0_5.length c0_5] 28 (0, 0)) (by (with_reducible repeat (first | refine blk_drewN ?_ _ | refine blk_drew ?_ | refine blk_alloc ?_ _)); exact BK248.out) hb); have n1_ := Aside0.mk (blk_below (g := gb249) (o := .cells #[.int .i64 a1_0, .int .i64 a1_1, .slice A1_2 l1_2.length c1_2, .int .i64 a1_3, .int .i64 a1_4, .slice A1_5 l1_5.length c1_5] 28 (0, 0)) (by (with_reducible repeat (first | refine blk_drewN ?_ _ | refine blk_drew ?_ | refine blk_alloc ?_ _)); exact BK249.out) hb); have n2_ := Aside0.mk (below_step (by repeat (first | (with_reducible first | exact HB.out | apply below_alloc | apply pw_below_drewN | apply below_drew1 | refine below_set ?_ GE248.out | refine below_set ?_ GE249.out) | exact HB.out)) hb); clear BK248; clear BK249; clear HB; have BK248 := n0_; have BK249 := n1_; have HB := n2_; clear n0_ n1_ n2_; (try clear hb); (try clear hb2); (try clear hk); (try clear hi); have hcz12_0 : w11.cell? ⟨gb248, 0, none⟩ = some (.int .i64 a0_0) := (blk_cell BK248.out 0).trans rfl; have hcz12_1 : w11.cell? ⟨gb248, 1, none⟩ = some (.int .i64 a0_1) := (blk_cell BK248.out 1).trans rfl; have hcz12_2 : w11.cell? ⟨gb248, 2, none⟩ = some (.slice A0_2 l0_2.length c0_2) := (blk_cell BK248.out 2).trans rfl; have hcz12_3 : w11.cell? ⟨gb248, 3, none⟩ = some (.int .i64 a0_3) := (blk_cell BK248.out 3).trans rfl; have hcz12_4 : w11.cell? ⟨gb248, 4, none⟩ = some (.int .i64 a0_4) := (blk_cell BK248.out 4).trans rfl; have hcz12_5 : w11.cell? ⟨gb248, 5, none⟩ = some (.slice A0_5 l0_5.length c0_5) := (blk_cell BK248.out 5).trans rfl; have hfz12_0 := blk_frozen BK248.out 0; have hfz12_1 := blk_frozen BK248.out 1; have hfz12_2 := blk_frozen BK248.out 2; have hfz12_3 := blk_frozen BK248.out 3; have hfz12_4 := blk_frozen BK248.out 4; have hfz12_5 := blk_frozen BK248.out 5; have hcz13_0 : w11.cell? ⟨gb249, 0, none⟩ = some (.int .i64 a1_0) := (blk_cell BK249.out 0).trans rfl; have hcz13_1 : w11.cell? ⟨gb249, 1, none⟩ = some (.int .i64 a1_1) := (blk_cell BK249.out 1).trans rfl; have hcz13_2 : w11.cell? ⟨gb249, 2, none⟩ = some (.slice A1_2 l1_2.length c1_2) := (blk_cell BK249.out 2).trans rfl; have hcz13_3 : w11.cell? ⟨gb249, 3, none⟩ = some (.int .i64 a1_3) := (blk_cell BK249.out 3).trans rfl; have hcz13_4 : w11.cell? ⟨gb249, 4, none⟩ = some (.int .i64 a1_4) := (blk_cell BK249.out 4).trans rfl; have hcz13_5 : w11.cell? ⟨gb249, 5, none⟩ = some (.slice A1_5 l1_5.length c1_5) := (blk_cell BK249.out 5).trans rfl; have hfz13_0 := blk_frozen BK249.out 0; have hfz13_1 := blk_frozen BK249.out 1; have hfz13_2 := blk_frozen BK249.out 2; have hfz13_3 := blk_frozen BK249.out 3; have hfz13_4 := blk_frozen BK249.out 4; have hfz13_5 := blk_frozen BK249.out 5) | (go_at_call 19; (with_reducible refine (alidaderef03_Same.calls k a0_3 a0_4 _ _ l0_5 a1_3 a1_4 _ _ l1_5 t251 _ ?side1 ?side2 ?side3 ?side4 A5.out).mono ?_); (case side1 => repeat (first | exact (Kd.C_below HR0_5.out HB.out) | (with_reducible refine Kd.C_alloc ?_ _) | (with_reducible refine Kd.C_drewN ?_ _) | (with_reducible refine Kd.C_drew ?_))); (case side2 => exact HC0_5.out); (case side3 => repeat (first | exact (Kd.C_below HR1_5.out HB.out) | (with_reducible refine Kd.C_alloc ?_ _) | (with_reducible refine Kd.C_drewN ?_ _) | (with_reducible refine Kd.C_drew ?_))); (case side4 => exact HC1_5.out); rintro e w14 ⟨rfl, hb⟩; have n0_ := Aside0.mk (blk_below (g := gb248) (o := .cells #[.int .i64 a0_0, .int .i64 a0_1, .slice A0_2 l0_2.length c0_2, .int .i64 a0_3, .int .i64 a0_4, .slice A0_5 l0_5.length c0_5] 28 (0, 0)) (by (with_reducible repeat (first | refine blk_drewN ?_ _ | refine blk_drew ?_ | refine blk_alloc ?_ _)); exact BK248.out) hb); have n1_ := Aside0.mk (blk_below (g := gb249) (o := .cells #[.int .i64 a1_0, .int .i64 a1_1, .slice A1_2 l1_2.length c1_2, .int .i64 a1_3, .int .i64 a1_4, .slice A1_5 l1_5.length c1_5] 28 (0, 0)) (by (with_reducible repeat (first | refine blk_drewN ?_ _ | refine blk_drew ?_ | refine blk_alloc ?_ _)); exact BK249.out) hb); have n2_ := Aside0.mk (below_step (by repeat (first | (with_reducible first | exact HB.out | apply below_alloc | apply pw_below_drewN | apply below_drew1 | refine below_set ?_ GE248.out | refine below_set ?_ GE249.out) | exact HB.out)) hb); clear BK248; clear BK249; clear HB; have BK248 := n0_; have BK249 := n1_; have HB := n2_; clear n0_ n1_ n2_; (try clear hb); (try clear hb2); (try clear hk); (try clear hi)))
    go_ret
    exact ⟨by first | rfl | (simp [errW_none, errW_some] <;> rfl) | (simp [*, errW_none, errW_some] <;> rfl), by repeat (first | (with_reducible first | exact HB.out | apply below_alloc | apply pw_below_drewN | apply below_drew1 | refine below_set ?_ GE248.out | refine below_set ?_ GE249.out) | exact HB.out)⟩
  · replace c4 := Bool.eq_false_iff.mpr c4
    subst c4
    have H1 : (some false) = some r := by rw [if_neg (show ¬ (false = true) by decide)] at H; exact H
    clear H
    have H := H1
    clear H1
    obtain rfl := Option.some.inj H
    go_enter Try.func21, Try.ntmps21
    go_wp2_with (first | ((with_reducible refine gate_dst (N := 2) rfl ?_); refine box_event ?hg (N := 2) ?hd (cs := #[.int .i64 a0_0, .int .i64 a0_1, .slice A0_2 l0_2.length c0_2, .int .i64 a0_3, .int .i64 a0_4, .slice A0_5 l0_5.length c0_5]) (t := 28) ?hr ?_; (case hd => rfl); (case hg => rfl); (case hr => first | (go_simp; done) | (go_simp; rfl)); intro gb248 hg w15 hbox hb; have n0_ := Aside0.mk (below_step (by repeat (first | (with_reducible first | exact HB.out | apply below_alloc | apply pw_below_drewN | apply below_drew1) | exact HB.out)) hb); have n1_ := Aside0.mk (hbox); have n2_ := Aside0.mk ((by rw [hg]; exact (below_size (by repeat (first | (with_reducible first | exact HB.out | apply below_alloc | apply pw_below_drewN | apply below_drew1) | exact HB.out))) : w.heap.size ≤ gb248)); have n3_ := Aside0.mk ((by rw [hg]; exact (below_size (by repeat (first | (with_reducible first | exact HB.out | apply below_alloc | apply pw_below_drewN | apply below_drew1) | exact HB.out))) : w.heap.size ≤ gb248)); clear HB; have HB := n0_; have BK248 := n1_; have GW248 := n2_; have GE248 := n3_; clear n0_ n1_ n2_ n3_; clear hb hbox hg) | ((with_reducible refine gate_dst (N := 3) rfl ?_); refine box_event ?hg (N := 3) ?hd (cs := #[.int .i64 a1_0, .int .i64 a1_1, .slice A1_2 l1_2.length c1_2, .int .i64 a1_3, .int .i64 a1_4, .slice A1_5 l1_5.length c1_5]) (t := 28) ?hr ?_; (case hd => rfl); (case hg => rfl); (case hr => first | (go_simp; done) | (go_simp; rfl)); intro gb249 hg w16 hbox hb; have n0_ := Aside0.mk (blk_below (g := gb248) (o := .cells #[.int .i64 a0_0, .int .i64 a0_1, .slice A0_2 l0_2.length c0_2, .int .i64 a0_3, .int .i64 a0_4, .slice A0_5 l0_5.length c0_5] 28 (0, 0)) (by (with_reducible repeat (first | refine blk_drewN ?_ _ | refine blk_drew ?_ | refine blk_alloc ?_ _)); exact BK248.out) hb); have n1_ := Aside0.mk (below_step (by repeat (first | (with_reducible first | exact HB.out | apply below_alloc | apply pw_below_drewN | apply below_drew1 | refine below_set ?_ GE248.out) | exact HB.out)) hb); have n2_ := Aside0.mk (hbox); have n3_ := Aside0.mk ((by rw [hg]; exact (below_size (by repeat (first | (with_reducible first | exact HB.out | apply below_alloc | apply pw_below_drewN | apply below_drew1 | refine below_set ?_ GE248.out) | exact HB.out))) : w.heap.size ≤ gb249)); have n4_ := Aside0.mk ((by rw [hg]; exact (below_size (by repeat (first | (with_reducible first | exact HB.out | apply below_alloc | apply pw_below_drewN | apply below_drew1 | refine below_set ?_ GE248.out) | exact HB.out))) : w.heap.size ≤ gb249)); have n5_ := Aside0.mk ((by rw [hg]; exact Nat.ne_of_lt (blk_lt (g := gb248) (o := .cells #[.int .i64 a0_0, .int .i64 a0_1, .slice A0_2 l0_2.length c0_2, .int .i64 a0_3, .int .i64 a0_4, .slice A0_5 l0_5.length c0_5] 28 (0, 0)) (by (with_reducible repeat (first | refine blk_drewN ?_ _ | refine blk_drew ?_ | refine blk_alloc ?_ _)); exact BK248.out)) : gb248 ≠ gb249)); have n6_ := Aside0.mk ((by rw [hg]; exact Nat.ne_of_gt (blk_lt (g := gb248) (o := .cells #[.int .i64 a0_0, .int .i64 a0_1, .slice A0_2 l0_2.length c0_2, .int .i64 a0_3, .int .i64 a0_4, .slice A0_5 l0_5.length c0_5] 28 (0, 0)) (by (with_reducible repeat (first | refine blk_drewN ?_ _ | refine blk_drew ?_ | refine blk_alloc ?_ _)); exact BK248.out)) : gb249 ≠ gb248)); clear BK248; clear HB; have BK248 := n0_; have HB := n1_; have BK249 := n2_; have GW249 := n3_; have GE249 := n4_; have NB248_249 := n5_; have NB249_248 := n6_; clear n0_ n1_ n2_ n3_ n4_ n5_ n6_; clear hb hbox hg; have hnb17 := NB248_249.out; have hnc17 := NB249_248.out; have hcz18_0 : w16.cell? ⟨gb248, 0, none⟩ = some (.int .i64 a0_0) := (blk_cell BK248.out 0).trans rfl; have hcz18_1 : w16.cell? ⟨gb248, 1, none⟩ = some (.int .i64 a0_1) := (blk_cell BK248.out 1).trans rfl; have hcz18_2 : w16.cell? ⟨gb248, 2, none⟩ = some (.slice A0_2 l0_2.length c0_2) := (blk_cell BK248.out 2).trans rfl; have hcz18_3 : w16.cell? ⟨gb248, 3, none⟩ = some (.int .i64 a0_3) := (blk_cell BK248.out 3).trans rfl; have hcz18_4 : w16.cell? ⟨gb248, 4, none⟩ = some (.int .i64 a0_4) := (blk_cell BK248.out 4).trans rfl; have hcz18_5 : w16.cell? ⟨gb248, 5, none⟩ = some (.slice A0_5 l0_5.length c0_5) := (blk_cell BK248.out 5).trans rfl; have hfz18_0 := blk_frozen BK248.out 0; have hfz18_1 := blk_frozen BK248.out 1; have hfz18_2 := blk_frozen BK248.out 2; have hfz18_3 := blk_frozen BK248.out 3; have hfz18_4 := blk_frozen BK248.out 4; have hfz18_5 := blk_frozen BK248.out 5; have hcz19_0 : w16.cell? ⟨gb249, 0, none⟩ = some (.int .i64 a1_0) := (blk_cell BK249.out 0).trans rfl; have hcz19_1 : w16.cell? ⟨gb249, 1, none⟩ = some (.int .i64 a1_1) := (blk_cell BK249.out 1).trans rfl; have hcz19_2 : w16.cell? ⟨gb249, 2, none⟩ = some (.slice A1_2 l1_2.length c1_2) := (blk_cell BK249.out 2).trans rfl; have hcz19_3 : w16.cell? ⟨gb249, 3, none⟩ = some (.int .i64 a1_3) := (blk_cell BK249.out 3).trans rfl; have hcz19_4 : w16.cell? ⟨gb249, 4, none⟩ = some (.int .i64 a1_4) := (blk_cell BK249.out 4).trans rfl; have hcz19_5 : w16.cell? ⟨gb249, 5, none⟩ = some (.slice A1_5 l1_5.length c1_5) := (blk_cell BK249.out 5).trans rfl; have hfz19_0 := blk_frozen BK249.out 0; have hfz19_1 := blk_frozen BK249.out 1; have hfz19_2 := blk_frozen BK249.out 2; have hfz19_3 := blk_frozen BK249.out 3; have hfz19_4 := blk_frozen BK249.out 4; have hfz19_5 := blk_frozen BK249.out 5) | ((with_reducible refine gate_callee (f := 19) rfl ?_); refine goesL_ (some 9) rfl rfl Try.func19 (by kernel_rfl) rfl #[.agg #[.int .i64 a0_0, .int .i64 a0_1, .slice A0_2 l0_2.length c0_2], .agg #[.int .i64 a1_0, .int .i64 a1_1, .slice A1_2 l1_2.length c1_2]] rfl (by (try simp only [List.map_toArray, List.map_cons, List.map_nil]); first | done | rfl | (simp only [List.length_drop, List.length_take]; rfl)) ?_; (with_reducible refine (alidaderef03_Same.calls k a0_0 a0_1 _ _ l0_2 a1_0 a1_1 _ _ l1_2 false _ ?side1 ?side2 ?side3 ?side4 A3.out).mono ?_); (case side1 => repeat (first | exact (Kd.C_below HR0_2.out HB.out) | (with_reducible refine Kd.C_alloc ?_ _) | (with_reducible refine Kd.C_drewN ?_ _) | (with_reducible refine Kd.C_drew ?_))); (case side2 => exact HC0_2.out); (case side3 => repeat (first | exact (Kd.C_below HR1_2.out HB.out) | (with_reducible refine Kd.C_alloc ?_ _) | (with_reducible refine Kd.C_drewN ?_ _) | (with_reducible refine Kd.C_drew ?_))); (case side4 => exact HC1_2.out); rintro e w20 ⟨rfl, hb⟩; refine ⟨_, rfl, ?_⟩; have n0_ := Aside0.mk (blk_below (g := gb248) (o := .cells #[.int .i64 a0_0, .int .i64 a0_1, .slice A0_2 l0_2.length c0_2, .int .i64 a0_3, .int .i64 a0_4, .slice A0_5 l0_5.length c0_5] 28 (0, 0)) (by (with_reducible repeat (first | refine blk_drewN ?_ _ | refine blk_drew ?_ | refine blk_alloc ?_ _)); exact BK248.out) hb); have n1_ := Aside0.mk (blk_below (g := gb249) (o := .cells #[.int .i64 a1_0, .int .i64 a1_1, .slice A1_2 l1_2.length c1_2, .int .i64 a1_3, .int .i64 a1_4, .slice A1_5 l1_5.length c1_5] 28 (0, 0)) (by (with_reducible repeat (first | refine blk_drewN ?_ _ | refine blk_drew ?_ | refine blk_alloc ?_ _)); exact BK249.out) hb); have n2_ := Aside0.mk (below_step (by repeat (first | (with_reducible first | exact HB.out | apply below_alloc | apply pw_below_drewN | apply below_drew1 | refine below_set ?_ GE248.out | refine below_set ?_ GE249.out) | exact HB.out)) hb); clear BK248; clear BK249; clear HB; have BK248 := n0_; have BK249 := n1_; have HB := n2_; clear n0_ n1_ n2_; (try clear hb); (try clear hb2); (try clear hk); (try clear hi)))
    go_ret
    exact ⟨by first | rfl | (simp [errW_none, errW_some] <;> rfl) | (simp [*, errW_none, errW_some] <;> rfl), by repeat (first | (with_reducible first | exact HB.out | apply below_alloc | apply pw_below_drewN | apply below_drew1 | refine below_set ?_ GE248.out | refine below_set ?_ GE249.out) | exact HB.out)⟩

/-! ### alidaderef01_Half: function 81 -/
mutual
def alidaderef01_Half.j0 : Nat → Int → Int → Option (Int)
  | 0, _, _ => none
  | k + 1, x0, x1 => alidaderef01_Half.l0 k x0 x1 1 0
def alidaderef01_Half.l0 : Nat → Int → Int → Int → Int → Option (Int)
  | 0, _, _, _, _ => none
  | k + 1, x0, x1, x5, x6 => if x6 < x1 then (alidaderef01_Half.l0 k x0 x1 (wrap64 (x5 * 2)) (wrap64 (x6 + 1))) else (if x5 = 0 then (none) else (if (Int.tmod x0 x5) < 0 then (if (wrap64 ((Int.tmod x0 x5) + x5)) > (wrap64 (Int.tdiv x5 2)) then (some (wrap64 ((wrap64 ((wrap64 (Int.tdiv x0 x5)) - 1)) + 1))) else (if (wrap64 ((Int.tmod x0 x5) + x5)) = (wrap64 (Int.tdiv x5 2)) then (if (Int.tmod (wrap64 ((wrap64 (Int.tdiv x0 x5)) - 1)) 2) = 0 then (some (wrap64 ((wrap64 (Int.tdiv x0 x5)) - 1))) else (some (wrap64 ((wrap64 ((wrap64 (Int.tdiv x0 x5)) - 1)) + 1)))) else (some (wrap64 ((wrap64 (Int.tdiv x0 x5)) - 1))))) else (if (Int.tmod x0 x5) > (wrap64 (Int.tdiv x5 2)) then (some (wrap64 ((wrap64 (Int.tdiv x0 x5)) + 1))) else (if (Int.tmod x0 x5) = (wrap64 (Int.tdiv x5 2)) then (if (Int.tmod (wrap64 (Int.tdiv x0 x5)) 2) = 0 then (some (wrap64 (Int.tdiv x0 x5))) else (some (wrap64 ((wrap64 (Int.tdiv x0 x5)) + 1)))) else (some (wrap64 (Int.tdiv x0 x5)))))))
end
def alidaderef01_Half.f (k : Nat) (a0 : Int) (a1 : Int) : Option (Int) := if a1 ≤ 0 then (some a0) else (if a1 > 62 then (alidaderef01_Half.j0 k a0 62) else (alidaderef01_Half.j0 k a0 a1))
theorem alidaderef01_Half.mono_l : ∀ k, (∀ y0 y1, LeO (alidaderef01_Half.j0 k y0 y1) (alidaderef01_Half.j0 (k + 1) y0 y1)) ∧ (∀ y0 y1 y2 y3, LeO (alidaderef01_Half.l0 k y0 y1 y2 y3) (alidaderef01_Half.l0 (k + 1) y0 y1 y2 y3))
  | 0 => ⟨fun _ _ r h => by simp [alidaderef01_Half.j0] at h, fun _ _ _ _ r h => by simp [alidaderef01_Half.l0] at h⟩
  | k + 1 => by
    obtain ⟨ih0, ih1⟩ := alidaderef01_Half.mono_l k
    refine ⟨?_, ?_⟩
    · intro y0 y1
      unfold alidaderef01_Half.j0
      repeat' first
      | (with_reducible exact ih0 _ _)
      | (with_reducible exact ih1 _ _ _ _)
      | (with_reducible exact LeO.refl _)
      | (with_reducible exact LeO.none _)
      | (with_reducible refine LeO.ite ?_ ?_)
      | (with_reducible refine LeO.bind ?_ (fun _ => ?_))
      | exact ih0 _ _
      | exact ih1 _ _ _ _
      | exact LeO.none _
      | refine LeO.ite ?_ ?_
      | refine LeO.bind ?_ (fun _ => ?_)
    · intro y0 y1 y2 y3
      unfold alidaderef01_Half.l0
      repeat' first
      | (with_reducible exact ih0 _ _)
      | (with_reducible exact ih1 _ _ _ _)
      | (with_reducible exact LeO.refl _)
      | (with_reducible exact LeO.none _)
      | (with_reducible refine LeO.ite ?_ ?_)
      | (with_reducible refine LeO.bind ?_ (fun _ => ?_))
      | exact ih0 _ _
      | exact ih1 _ _ _ _
      | exact LeO.none _
      | refine LeO.ite ?_ ?_
      | refine LeO.bind ?_ (fun _ => ?_)
theorem alidaderef01_Half.mono : ∀ a0 a1 k, LeO (alidaderef01_Half.f k a0 a1) (alidaderef01_Half.f (k + 1) a0 a1) := by
  intro a0 a1 k
  obtain ⟨ih0, ih1⟩ := alidaderef01_Half.mono_l k
  unfold alidaderef01_Half.f
  repeat' first
      | (with_reducible exact ih0 _ _)
      | (with_reducible exact ih1 _ _ _ _)
      | (with_reducible exact LeO.refl _)
      | (with_reducible exact LeO.none _)
      | (with_reducible refine LeO.ite ?_ ?_)
      | (with_reducible refine LeO.bind ?_ (fun _ => ?_))
      | exact ih0 _ _
      | exact ih1 _ _ _ _
      | exact LeO.none _
      | refine LeO.ite ?_ ?_
      | refine LeO.bind ?_ (fun _ => ?_)
end Go.Proofs.Ytninmcmajbfccaa.PQ

-- Laid by a program of this session's own (wip/print-patch.py over the kit's print), out of the translation; Lean checks it.
namespace Go.Proofs.Ytninmcmajbfccaa.PQ
open Go.RowKit Go.Proofs.YtninmcmajbfccaaW.PrintWords Go.Proofs.YtninmcmajbfccaaW.PrintLast Go.Proofs.YtninmcmajbfccaaW.PrintMore
attribute [local go_sem] max2_int min2_int max_two min_two max_three min_three max_four min_four   -- for this text's walks alone
set_option linter.unusedVariables false
set_option linter.unusedSimpArgs false

/-! ### alidaderef03_Even: function 43 -/
mutual
def alidaderef03_Even.l0 : Nat → Int → Int → Int → List Int → Int → Int → List Int → Option (Int × Int × List Int × Bool × Int)
  | 0, _, _, _, _, _, _, _ => none
  | k + 1, x6, x253000, x253001, x253002, x260000, x260001, x260002 => if x6 < x253000 then (alidaderef03_Even.l1 k x6 0 x253000 x253001 x253002 x260000 x260001 x260002) else (some (x260000, x260001, x260002, false, 0))
def alidaderef03_Even.l1 : Nat → Int → Int → Int → Int → List Int → Int → Int → List Int → Option (Int × Int × List Int × Bool × Int)
  | 0, _, _, _, _, _, _, _, _ => none
  | k + 1, x6, x7, x253000, x253001, x253002, x260000, x260001, x260002 => if x7 < x253001 then (if 0 ≤ (wrap64 ((wrap64 (x6 * x253001)) + x7)) then (if (wrap64 ((wrap64 (x6 * x253001)) + x7)) < (x253002.length : Int) then (if 0 ≤ (wrap64 ((wrap64 (x7 * x253001)) + x6)) then (if (wrap64 ((wrap64 (x7 * x253001)) + x6)) < (x253002.length : Int) then ((alidaderef01_Half.f k (wrap64 ((rd x253002 (wrap64 ((wrap64 (x6 * x253001)) + x7))) + (rd x253002 (wrap64 ((wrap64 (x7 * x253001)) + x6))))) 1).bind fun t262 => (if (wrap64 ((wrap64 (x6 * x253001)) + x7)) < (x260002.length : Int) then (alidaderef03_Even.l1 k x6 (wrap64 (x7 + 1)) x253000 x253001 x253002 x260000 x260001 (x260002.set ((wrap64 ((wrap64 (x6 * x253001)) + x7)) : Int).toNat t262)) else (none))) else (none)) else (none)) else (none)) else (none)) else (alidaderef03_Even.l0 k (wrap64 (x6 + 1)) x253000 x253001 x253002 x260000 x260001 x260002)
end
def alidaderef03_Even.f (k : Nat) (a0_0 : Int) (a0_1 : Int) (l0_2 : List Int) : Option (Int × Int × List Int × Bool × Int) := if a0_0 = a0_1 then ((alidaderef03_None.f k a0_0 a0_1).bind fun bt254 => (alidaderef03_Even.l0 k 0 a0_0 a0_1 l0_2 bt254.1 bt254.2.1 bt254.2.2)) else (some (0, 0, ([] : List Int), false, 9))
/-! ### alidaderef05_Good: function 22 -/
def alidaderef05_Good.l0 : Nat → Int → Int → Int → List Int → Option (Int × Int × List Int)
  | 0, _, _, _, _ => none
  | k + 1, x6, x274000, x274001, x274002 => if x6 < x274000 then (if 0 ≤ (wrap64 ((wrap64 (x6 * x274000)) + x6)) then (if (wrap64 ((wrap64 (x6 * x274000)) + x6)) < (x274002.length : Int) then (if (rd x274002 (wrap64 ((wrap64 (x6 * x274000)) + x6))) < 0 then (alidaderef05_Good.l0 k (wrap64 (x6 + 1)) x274000 x274001 (x274002.set ((wrap64 ((wrap64 (x6 * x274000)) + x6)) : Int).toNat 0)) else (alidaderef05_Good.l0 k (wrap64 (x6 + 1)) x274000 x274001 x274002)) else (none)) else (none)) else (some (x274000, x274001, x274002))
def alidaderef05_Good.f (k : Nat) (a0_0 : Int) (a0_1 : Int) (l0_2 : List Int) : Option (Int × Int × List Int) := (alidaderef03_Even.f k a0_0 a0_1 l0_2).bind fun bt266 => (alidaderef05_Good.l0 k 0 bt266.1 bt266.2.1 bt266.2.2.1)
end Go.Proofs.Ytninmcmajbfccaa.PQ
