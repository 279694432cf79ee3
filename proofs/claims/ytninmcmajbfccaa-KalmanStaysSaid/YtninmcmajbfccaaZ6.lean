import Derived.Test.YtninmcmajbfccaaZ3
import Derived.Test.YtninmcmajbfccaaZ5
/- Joined by a program of this session's own (wip/pack.py) out of its texts; the parts PQ, PR, PS were laid by its own program (wip/print-patch.py over the kit's print) out of the translation; Lean checks all. -/
-- Laid by a program of this session's own (wip/print-patch.py over the kit's print), out of the translation; Lean checks it.
namespace Go.Proofs.Ytninmcmajbfccaa.PQ
open Go.RowKit Go.Proofs.YtninmcmajbfccaaW.PrintWords Go.Proofs.YtninmcmajbfccaaW.PrintLast Go.Proofs.YtninmcmajbfccaaW.PrintMore
attribute [local go_sem] max2_int min2_int max_two min_two max_three min_three max_four min_four   -- for this text's walks alone
set_option linter.unusedVariables false
set_option linter.unusedSimpArgs false

/-! ### qfix_both: function 63 -/
def qfix_both.f (a0 : Int) (a1 : Int) : Option (Int × Int × Bool) := (qfix_Clamp.f a0).bind fun bt127 => ((qfix_Clamp.f a1).bind fun bt129 => (if bt127.2 = true then (some (bt127.1, bt129.1, true)) else (some (bt127.1, bt129.1, bt129.2))))
set_option maxHeartbeats 8000000 in
set_option maxRecDepth 100000 in
theorem qfix_both.calls (a0 : Int) (a1 : Int) (r1 : Int) (r2 : Int) (r3 : Bool) (w : World) (h : qfix_both.f a0 a1 = some (r1, r2, r3)) :
    Calls Try.prog 63 #[.int .i64 a0, .int .i64 a1] w fun e w' => e = .returned (.tuple #[.int .i64 r1, .int .i64 r2, .bool r3]) ∧ Below w.heap.size w w' := by
  have HB := Aside0.mk (Below.refl w.heap.size w)
  have H : ((qfix_Clamp.f a0).bind fun bt127 => ((qfix_Clamp.f a1).bind fun bt129 => (if bt127.2 = true then (some (bt127.1, bt129.1, true)) else (some (bt127.1, bt129.1, bt129.2))))) = some (r1, r2, r3) := h
  clear h
  replace H := Option.bind_eq_some_iff.mp H
  obtain ⟨⟨t127, t128⟩, A30, H⟩ := H
  replace H : ((qfix_Clamp.f a1).bind fun bt129 => (if t128 = true then (some (t127, bt129.1, true)) else (some (t127, bt129.1, bt129.2)))) = some (r1, r2, r3) := H
  have A3 := Aside0.mk A30
  clear A30
  replace H := Option.bind_eq_some_iff.mp H
  obtain ⟨⟨t129, t130⟩, A40, H⟩ := H
  replace H : (if t128 = true then (some (t127, t129, true)) else (some (t127, t129, t130))) = some (r1, r2, r3) := H
  have A4 := Aside0.mk A40
  clear A40
  by_cases c5 : t128 = true
  · subst c5
    have H1 : (some (t127, t129, true)) = some (r1, r2, r3) := by rw [if_pos rfl] at H; exact H
    clear H
    have H := H1
    clear H1
    simp only [Option.some.injEq, Prod.mk.injEq] at H
    obtain ⟨rfl, rfl, rfl⟩ := H
    go_enter Try.func63, Try.ntmps63
    go_wp2_with (first | ((with_reducible refine gate_callee (f := 86) rfl ?_); refine goesL_ (some 11) rfl rfl Try.func86 (by kernel_rfl) rfl #[.int .i64 a0] rfl (by (try simp only [List.map_toArray, List.map_cons, List.map_nil]); first | done | rfl | (simp only [List.length_drop, List.length_take]; rfl)) ?_; (with_reducible refine (qfix_Clamp.calls a0 t127 true _ A3.out).mono ?_); rintro e w6 ⟨rfl, hb⟩; refine ⟨_, rfl, ?_⟩; have n0_ := Aside0.mk (below_step (by repeat (first | (with_reducible first | exact HB.out | apply below_alloc | apply pw_below_drewN | apply below_drew1) | exact HB.out)) hb); clear HB; have HB := n0_; clear n0_; (try clear hb); (try clear hb2); (try clear hk); (try clear hi)) | ((with_reducible refine gate_callee (f := 86) rfl ?_); refine goesL_ (some 16) rfl rfl Try.func86 (by kernel_rfl) rfl #[.int .i64 a1] rfl (by (try simp only [List.map_toArray, List.map_cons, List.map_nil]); first | done | rfl | (simp only [List.length_drop, List.length_take]; rfl)) ?_; (with_reducible refine (qfix_Clamp.calls a1 t129 t130 _ A4.out).mono ?_); rintro e w7 ⟨rfl, hb⟩; refine ⟨_, rfl, ?_⟩; have n0_ := Aside0.mk (below_step (by repeat (first | (with_reducible first | exact HB.out | apply below_alloc | apply pw_below_drewN | apply below_drew1) | exact HB.out)) hb); clear HB; have HB := n0_; clear n0_; (try clear hb); (try clear hb2); (try clear hk); (try clear hi)))
    go_ret3
    exact ⟨by first | rfl | (simp [errW_none, errW_some] <;> rfl) | (simp [*, errW_none, errW_some] <;> rfl), by repeat (first | (with_reducible first | exact HB.out | apply below_alloc | apply pw_below_drewN | apply below_drew1) | exact HB.out)⟩
  · replace c5 := Bool.eq_false_iff.mpr c5
    subst c5
    have H1 : (some (t127, t129, t130)) = some (r1, r2, r3) := by rw [if_neg (show ¬ (false = true) by decide)] at H; exact H
    clear H
    have H := H1
    clear H1
    simp only [Option.some.injEq, Prod.mk.injEq] at H
    obtain ⟨rfl, rfl, rfl⟩ := H
    go_enter Try.func63, Try.ntmps63
    go_wp2_with (first | ((with_reducible refine gate_callee (f := 86) rfl ?_); refine goesL_ (some 11) rfl rfl Try.func86 (by kernel_rfl) rfl #[.int .i64 a0] rfl (by (try simp only [List.map_toArray, List.map_cons, List.map_nil]); first | done | rfl | (simp only [List.length_drop, List.length_take]; rfl)) ?_; (with_reducible refine (qfix_Clamp.calls a0 t127 false _ A3.out).mono ?_); rintro e w8 ⟨rfl, hb⟩; refine ⟨_, rfl, ?_⟩; have n0_ := Aside0.mk (below_step (by repeat (first | (with_reducible first | exact HB.out | apply below_alloc | apply pw_below_drewN | apply below_drew1) | exact HB.out)) hb); clear HB; have HB := n0_; clear n0_; (try clear hb); (try clear hb2); (try clear hk); (try clear hi)) | ((with_reducible refine gate_callee (f := 86) rfl ?_); refine goesL_ (some 16) rfl rfl Try.func86 (by kernel_rfl) rfl #[.int .i64 a1] rfl (by (try simp only [List.map_toArray, List.map_cons, List.map_nil]); first | done | rfl | (simp only [List.length_drop, List.length_take]; rfl)) ?_; (with_reducible refine (qfix_Clamp.calls a1 t129 t130 _ A4.out).mono ?_); rintro e w9 ⟨rfl, hb⟩; refine ⟨_, rfl, ?_⟩; have n0_ := Aside0.mk (below_step (by repeat (first | (with_reducible first | exact HB.out | apply below_alloc | apply pw_below_drewN | apply below_drew1) | exact HB.out)) hb); clear HB; have HB := n0_; clear n0_; (try clear hb); (try clear hb2); (try clear hk); (try clear hi)))
    go_ret3
    exact ⟨by first | rfl | (simp [errW_none, errW_some] <;> rfl) | (simp [*, errW_none, errW_some] <;> rfl), by repeat (first | (with_reducible first | exact HB.out | apply below_alloc | apply pw_below_drewN | apply below_drew1) | exact HB.out)⟩

/-! ### qfix_Sub: function 61 -/
def qfix_Sub.f (a0 : Int) (a1 : Int) : Option (Int × Bool) := (qfix_both.f a0 a1).bind fun bt131 => ((qfix_Clamp.f (wrap64 (bt131.1 - bt131.2.1))).bind fun bt134 => (if bt131.2.2 = true then (some (bt134.1, true)) else (some (bt134.1, bt134.2))))
set_option maxHeartbeats 8000000 in
set_option maxRecDepth 100000 in
theorem qfix_Sub.calls (a0 : Int) (a1 : Int) (r1 : Int) (r2 : Bool) (w : World) (h : qfix_Sub.f a0 a1 = some (r1, r2)) :
    Calls Try.prog 61 #[.int .i64 a0, .int .i64 a1] w fun e w' => e = .returned (.tuple #[.int .i64 r1, .bool r2]) ∧ Below w.heap.size w w' := by
  have HB := Aside0.mk (Below.refl w.heap.size w)
  have H : ((qfix_both.f a0 a1).bind fun bt131 => ((qfix_Clamp.f (wrap64 (bt131.1 - bt131.2.1))).bind fun bt134 => (if bt131.2.2 = true then (some (bt134.1, true)) else (some (bt134.1, bt134.2))))) = some (r1, r2) := h
  clear h
  replace H := Option.bind_eq_some_iff.mp H
  obtain ⟨⟨t131, t132, t133⟩, A30, H⟩ := H
  replace H : ((qfix_Clamp.f (wrap64 (t131 - t132))).bind fun bt134 => (if t133 = true then (some (bt134.1, true)) else (some (bt134.1, bt134.2)))) = some (r1, r2) := H
  have A3 := Aside0.mk A30
  clear A30
  replace H := Option.bind_eq_some_iff.mp H
  obtain ⟨⟨t134, t135⟩, A40, H⟩ := H
  replace H : (if t133 = true then (some (t134, true)) else (some (t134, t135))) = some (r1, r2) := H
  have A4 := Aside0.mk A40
  clear A40
  by_cases c5 : t133 = true
  · subst c5
    have H1 : (some (t134, true)) = some (r1, r2) := by rw [if_pos rfl] at H; exact H
    clear H
    have H := H1
    clear H1
    simp only [Option.some.injEq, Prod.mk.injEq] at H
    obtain ⟨rfl, rfl⟩ := H
    go_enter Try.func61, Try.ntmps61
    go_wp2_with (first | ((with_reducible refine gate_callee (f := 63) rfl ?_); refine goesL_ (some 12) rfl rfl Try.func63 (by kernel_rfl) rfl #[.int .i64 a0, .int .i64 a1] rfl (by (try simp only [List.map_toArray, List.map_cons, List.map_nil]); first | done | rfl | (simp only [List.length_drop, List.length_take]; rfl)) ?_; (with_reducible refine (qfix_both.calls a0 a1 t131 t132 true _ A3.out).mono ?_); rintro e w6 ⟨rfl, hb⟩; refine ⟨_, rfl, ?_⟩; have n0_ := Aside0.mk (below_step (by repeat (first | (with_reducible first | exact HB.out | apply below_alloc | apply pw_below_drewN | apply below_drew1) | exact HB.out)) hb); clear HB; have HB := n0_; clear n0_; (try clear hb); (try clear hb2); (try clear hk); (try clear hi)) | ((with_reducible refine gate_callee (f := 86) rfl ?_); refine goesL_ (some 20) rfl rfl Try.func86 (by kernel_rfl) rfl #[.int .i64 (wrap64 (t131 - t132))] rfl (by (try simp only [List.map_toArray, List.map_cons, List.map_nil]); first | done | rfl | (simp only [List.length_drop, List.length_take]; rfl)) ?_; (with_reducible refine (qfix_Clamp.calls (wrap64 (t131 - t132)) t134 t135 _ A4.out).mono ?_); rintro e w7 ⟨rfl, hb⟩; refine ⟨_, rfl, ?_⟩; have n0_ := Aside0.mk (below_step (by repeat (first | (with_reducible first | exact HB.out | apply below_alloc | apply pw_below_drewN | apply below_drew1) | exact HB.out)) hb); clear HB; have HB := n0_; clear n0_; (try clear hb); (try clear hb2); (try clear hk); (try clear hi)))
    go_ret2
    exact ⟨by first | rfl | (simp [errW_none, errW_some] <;> rfl) | (simp [*, errW_none, errW_some] <;> rfl), by repeat (first | (with_reducible first | exact HB.out | apply below_alloc | apply pw_below_drewN | apply below_drew1) | exact HB.out)⟩
  · replace c5 := Bool.eq_false_iff.mpr c5
    subst c5
    have H1 : (some (t134, t135)) = some (r1, r2) := by rw [if_neg (show ¬ (false = true) by decide)] at H; exact H
    clear H
    have H := H1
    clear H1
    simp only [Option.some.injEq, Prod.mk.injEq] at H
    obtain ⟨rfl, rfl⟩ := H
    go_enter Try.func61, Try.ntmps61
    go_wp2_with (first | ((with_reducible refine gate_callee (f := 63) rfl ?_); refine goesL_ (some 12) rfl rfl Try.func63 (by kernel_rfl) rfl #[.int .i64 a0, .int .i64 a1] rfl (by (try simp only [List.map_toArray, List.map_cons, List.map_nil]); first | done | rfl | (simp only [List.length_drop, List.length_take]; rfl)) ?_; (with_reducible refine (qfix_both.calls a0 a1 t131 t132 false _ A3.out).mono ?_); rintro e w8 ⟨rfl, hb⟩; refine ⟨_, rfl, ?_⟩; have n0_ := Aside0.mk (below_step (by repeat (first | (with_reducible first | exact HB.out | apply below_alloc | apply pw_below_drewN | apply below_drew1) | exact HB.out)) hb); clear HB; have HB := n0_; clear n0_; (try clear hb); (try clear hb2); (try clear hk); (try clear hi)) | ((with_reducible refine gate_callee (f := 86) rfl ?_); refine goesL_ (some 20) rfl rfl Try.func86 (by kernel_rfl) rfl #[.int .i64 (wrap64 (t131 - t132))] rfl (by (try simp only [List.map_toArray, List.map_cons, List.map_nil]); first | done | rfl | (simp only [List.length_drop, List.length_take]; rfl)) ?_; (with_reducible refine (qfix_Clamp.calls (wrap64 (t131 - t132)) t134 t135 _ A4.out).mono ?_); rintro e w9 ⟨rfl, hb⟩; refine ⟨_, rfl, ?_⟩; have n0_ := Aside0.mk (below_step (by repeat (first | (with_reducible first | exact HB.out | apply below_alloc | apply pw_below_drewN | apply below_drew1) | exact HB.out)) hb); clear HB; have HB := n0_; clear n0_; (try clear hb); (try clear hb2); (try clear hk); (try clear hi)))
    go_ret2
    exact ⟨by first | rfl | (simp [errW_none, errW_some] <;> rfl) | (simp [*, errW_none, errW_some] <;> rfl), by repeat (first | (with_reducible first | exact HB.out | apply below_alloc | apply pw_below_drewN | apply below_drew1) | exact HB.out)⟩

/-! ### qfix_Add: function 62 -/
def qfix_Add.f (a0 : Int) (a1 : Int) : Option (Int × Bool) := (qfix_both.f a0 a1).bind fun bt136 => ((qfix_Clamp.f (wrap64 (bt136.1 + bt136.2.1))).bind fun bt139 => (if bt136.2.2 = true then (some (bt139.1, true)) else (some (bt139.1, bt139.2))))
set_option maxHeartbeats 8000000 in
set_option maxRecDepth 100000 in
theorem qfix_Add.calls (a0 : Int) (a1 : Int) (r1 : Int) (r2 : Bool) (w : World) (h : qfix_Add.f a0 a1 = some (r1, r2)) :
    Calls Try.prog 62 #[.int .i64 a0, .int .i64 a1] w fun e w' => e = .returned (.tuple #[.int .i64 r1, .bool r2]) ∧ Below w.heap.size w w' := by
  have HB := Aside0.mk (Below.refl w.heap.size w)
  have H : ((qfix_both.f a0 a1).bind fun bt136 => ((qfix_Clamp.f (wrap64 (bt136.1 + bt136.2.1))).bind fun bt139 => (if bt136.2.2 = true then (some (bt139.1, true)) else (some (bt139.1, bt139.2))))) = some (r1, r2) := h
  clear h
  replace H := Option.bind_eq_some_iff.mp H
  obtain ⟨⟨t136, t137, t138⟩, A30, H⟩ := H
  replace H : ((qfix_Clamp.f (wrap64 (t136 + t137))).bind fun bt139 => (if t138 = true then (some (bt139.1, true)) else (some (bt139.1, bt139.2)))) = some (r1, r2) := H
  have A3 := Aside0.mk A30
  clear A30
  replace H := Option.bind_eq_some_iff.mp H
  obtain ⟨⟨t139, t140⟩, A40, H⟩ := H
  replace H : (if t138 = true then (some (t139, true)) else (some (t139, t140))) = some (r1, r2) := H
  have A4 := Aside0.mk A40
  clear A40
  by_cases c5 : t138 = true
  · subst c5
    have H1 : (some (t139, true)) = some (r1, r2) := by rw [if_pos rfl] at H; exact H
    clear H
    have H := H1
    clear H1
    simp only [Option.some.injEq, Prod.mk.injEq] at H
    obtain ⟨rfl, rfl⟩ := H
    go_enter Try.func62, Try.ntmps62
    go_wp2_with (first | ((with_reducible refine gate_callee (f := 63) rfl ?_); refine goesL_ (some 12) rfl rfl Try.func63 (by kernel_rfl) rfl #[.int .i64 a0, .int .i64 a1] rfl (by (try simp only [List.map_toArray, List.map_cons, List.map_nil]); first | done | rfl | (simp only [List.length_drop, List.length_take]; rfl)) ?_; (with_reducible refine (qfix_both.calls a0 a1 t136 t137 true _ A3.out).mono ?_); rintro e w6 ⟨rfl, hb⟩; refine ⟨_, rfl, ?_⟩; have n0_ := Aside0.mk (below_step (by repeat (first | (with_reducible first | exact HB.out | apply below_alloc | apply pw_below_drewN | apply below_drew1) | exact HB.out)) hb); clear HB; have HB := n0_; clear n0_; (try clear hb); (try clear hb2); (try clear hk); (try clear hi)) | ((with_reducible refine gate_callee (f := 86) rfl ?_); refine goesL_ (some 20) rfl rfl Try.func86 (by kernel_rfl) rfl #[.int .i64 (wrap64 (t136 + t137))] rfl (by (try simp only [List.map_toArray, List.map_cons, List.map_nil]); first | done | rfl | (simp only [List.length_drop, List.length_take]; rfl)) ?_; (with_reducible refine (qfix_Clamp.calls (wrap64 (t136 + t137)) t139 t140 _ A4.out).mono ?_); rintro e w7 ⟨rfl, hb⟩; refine ⟨_, rfl, ?_⟩; have n0_ := Aside0.mk (below_step (by repeat (first | (with_reducible first | exact HB.out | apply below_alloc | apply pw_below_drewN | apply below_drew1) | exact HB.out)) hb); clear HB; have HB := n0_; clear n0_; (try clear hb); (try clear hb2); (try clear hk); (try clear hi)))
    go_ret2
    exact ⟨by first | rfl | (simp [errW_none, errW_some] <;> rfl) | (simp [*, errW_none, errW_some] <;> rfl), by repeat (first | (with_reducible first | exact HB.out | apply below_alloc | apply pw_below_drewN | apply below_drew1) | exact HB.out)⟩
  · replace c5 := Bool.eq_false_iff.mpr c5
    subst c5
    have H1 : (some (t139, t140)) = some (r1, r2) := by rw [if_neg (show ¬ (false = true) by decide)] at H; exact H
    clear H
    have H := H1
    clear H1
    simp only [Option.some.injEq, Prod.mk.injEq] at H
    obtain ⟨rfl, rfl⟩ := H
    go_enter Try.func62, Try.ntmps62
    go_wp2_with (first | ((with_reducible refine gate_callee (f := 63) rfl ?_); refine goesL_ (some 12) rfl rfl Try.func63 (by kernel_rfl) rfl #[.int .i64 a0, .int .i64 a1] rfl (by (try simp only [List.map_toArray, List.map_cons, List.map_nil]); first | done | rfl | (simp only [List.length_drop, List.length_take]; rfl)) ?_; (with_reducible refine (qfix_both.calls a0 a1 t136 t137 false _ A3.out).mono ?_); rintro e w8 ⟨rfl, hb⟩; refine ⟨_, rfl, ?_⟩; have n0_ := Aside0.mk (below_step (by repeat (first | (with_reducible first | exact HB.out | apply below_alloc | apply pw_below_drewN | apply below_drew1) | exact HB.out)) hb); clear HB; have HB := n0_; clear n0_; (try clear hb); (try clear hb2); (try clear hk); (try clear hi)) | ((with_reducible refine gate_callee (f := 86) rfl ?_); refine goesL_ (some 20) rfl rfl Try.func86 (by kernel_rfl) rfl #[.int .i64 (wrap64 (t136 + t137))] rfl (by (try simp only [List.map_toArray, List.map_cons, List.map_nil]); first | done | rfl | (simp only [List.length_drop, List.length_take]; rfl)) ?_; (with_reducible refine (qfix_Clamp.calls (wrap64 (t136 + t137)) t139 t140 _ A4.out).mono ?_); rintro e w9 ⟨rfl, hb⟩; refine ⟨_, rfl, ?_⟩; have n0_ := Aside0.mk (below_step (by repeat (first | (with_reducible first | exact HB.out | apply below_alloc | apply pw_below_drewN | apply below_drew1) | exact HB.out)) hb); clear HB; have HB := n0_; clear n0_; (try clear hb); (try clear hb2); (try clear hk); (try clear hi)))
    go_ret2
    exact ⟨by first | rfl | (simp [errW_none, errW_some] <;> rfl) | (simp [*, errW_none, errW_some] <;> rfl), by repeat (first | (with_reducible first | exact HB.out | apply below_alloc | apply pw_below_drewN | apply below_drew1) | exact HB.out)⟩

-- NOT PRINTED: function 33 (kalman_work_innov)

/-! ### kalman_work_one: function 34 -/
/-! ### bits_Mul64: off the shelf -/
def bits_Mul64.f (a0 : Int) (a1 : Int) : Option (Int × Int) := if 0 ≤ a0 ∧ a0 < 18446744073709551616 ∧ 0 ≤ a1 ∧ a1 < 18446744073709551616 then some (a0 * a1 / 18446744073709551616, a0 * a1 % 18446744073709551616) else none
theorem bits_Mul64.calls (a0 : Int) (a1 : Int) (r1 : Int) (r2 : Int) (w : World) (h : bits_Mul64.f a0 a1 = some (r1, r2)) :
    Calls Try.prog 64 #[.int .u64 a0, .int .u64 a1] w fun e w' => e = .returned (.tuple #[.int .u64 r1, .int .u64 r2]) ∧ Drawn0 w w' := by
  unfold bits_Mul64.f at h
  by_cases hb : 0 ≤ a0 ∧ a0 < 18446744073709551616 ∧ 0 ≤ a1 ∧ a1 < 18446744073709551616
  · rw [if_pos hb] at h
    simp only [Option.some.injEq, Prod.mk.injEq] at h
    obtain ⟨rfl, rfl⟩ := h
    obtain ⟨x, rfl⟩ := Int.eq_ofNat_of_zero_le hb.1
    obtain ⟨y, rfl⟩ := Int.eq_ofNat_of_zero_le hb.2.2.1
    refine (Try.bits_Mul64 x y (by omega) (by omega) w).mono ?_
    rintro e w' ⟨rfl, rfl⟩
    exact ⟨by simp, Drawn0.refl _⟩
  · rw [if_neg hb] at h
    cases h

/-! ### qfix_size: function 65 -/
def qfix_size.f (a0 : Int) : Option (Int) := if a0 < 0 then (some (IntKind.u64.wrap (wrap64 (-a0)))) else (some (IntKind.u64.wrap (a0)))
set_option maxHeartbeats 8000000 in
set_option maxRecDepth 100000 in
theorem qfix_size.calls (a0 : Int) (r : Int) (w : World) (h : qfix_size.f a0 = some r) :
    Calls Try.prog 65 #[.int .i64 a0] w fun e w' => e = .returned (.int .u64 r) ∧ Drawn0 w w' := by
  have H : (if a0 < 0 then (some (IntKind.u64.wrap (wrap64 (-a0)))) else (some (IntKind.u64.wrap (a0)))) = some r := h
  clear h
  by_cases c2 : a0 < 0
  · rw [if_pos c2] at H
    have c2b0 : decide (a0 < 0) = true := decide_eq_true c2
    clear c2
    obtain rfl := Option.some.inj H
    go_enter Try.func65, Try.ntmps65
    go_wp2
    go_ret
    exact ⟨by first | rfl | (simp; done) | (simp [*]; done), by repeat (first | exact Drawn0.refl _ | apply Drawn0.step)⟩
  · rw [if_neg c2] at H
    have c2b0 : decide (a0 < 0) = false := decide_eq_false c2
    clear c2
    obtain rfl := Option.some.inj H
    go_enter Try.func65, Try.ntmps65
    go_wp2
    go_ret
    exact ⟨by first | rfl | (simp; done) | (simp [*]; done), by repeat (first | exact Drawn0.refl _ | apply Drawn0.step)⟩

/-! ### qfix_signed: by hand -/
def clampZ (a0 : Int) : Int := mn (mx a0 (-70368744177664)) 70368744177663
def clampB (a0 : Int) : Bool := (mn (mx a0 (-70368744177664)) 70368744177663) != a0
theorem clamp_any (a0 : Int) (w : World) :
    Calls Try.prog 86 #[.int .i64 a0] w fun e w' => e = .returned (.tuple #[.int .i64 (clampZ a0), .bool (clampB a0)]) ∧ Below w.heap.size w w' :=
  qfix_Clamp.calls a0 _ _ w rfl
def turnZ (b : Bool) (a0 : Int) : Int := if b = true then wrap64 (-a0) else a0
set_option maxHeartbeats 400000 in
theorem turn_calls (a0 : Int) (b : Bool) (A : Addr) (w : World) (hc : w.cell? A = some (.bool b)) :
    Calls Try.prog 87 #[.int .i64 a0, .pointer (some A)] w fun e w' => e = .returned (.int .i64 (turnZ b a0)) ∧ w' = w := by
  cases b
  · go_enter Try.func87, Try.ntmps87
    go_wp2
    go_ret
    exact ⟨by simp [turnZ], rfl⟩
  · go_enter Try.func87, Try.ntmps87
    go_wp2
    go_ret
    exact ⟨by simp [turnZ], rfl⟩
set_option maxHeartbeats 800000 in
theorem signed_far (a0 a1 : Int) (b : Bool) (w : World) (hd : ((a0 != 0) = true) ∨ ((a0 != 0) = false ∧ decide (a1 > 70368744177664) = true)) :
    Calls Try.prog 66 #[.int .u64 a0, .int .u64 a1, .bool b] w fun e w' => e = .returned (.tuple #[.int .i64 (clampZ (turnZ b 70368744177664)), .bool true]) ∧ Below w.heap.size w w' := by
  rcases hd with hd | ⟨hd, hd2⟩
  all_goals
    go_enter Try.func66, Try.ntmps66
    go_wp2_with (first | (go_at_call 87; refine (turn_calls _ b _ _ (by simp)).mono ?_; rintro e w' ⟨rfl, rfl⟩) | (go_at_call 86; refine (clamp_any _ _).mono ?_; rintro e w' ⟨rfl, hb⟩))
    go_ret2
    exact ⟨rfl, ((Below.refl _ _).alloc (Nat.le_refl _) _).trans (hb.mono (by simp))⟩
set_option maxHeartbeats 800000 in
theorem signed_near (a0 a1 : Int) (b : Bool) (w : World) (hd : (a0 != 0) = false) (hd2 : decide (a1 > 70368744177664) = false) :
    Calls Try.prog 66 #[.int .u64 a0, .int .u64 a1, .bool b] w fun e w' => e = .returned (.tuple #[.int .i64 (clampZ (turnZ b (wrap64 a1))), .bool (clampB (turnZ b (wrap64 a1)))]) ∧ Below w.heap.size w w' := by
  go_enter Try.func66, Try.ntmps66
  go_wp2_with (first | (go_at_call 87; refine (turn_calls _ b _ _ (by simp)).mono ?_; rintro e w' ⟨rfl, rfl⟩) | (go_at_call 86; refine (clamp_any _ _).mono ?_; rintro e w' ⟨rfl, hb⟩))
  go_ret2
  exact ⟨rfl, ((Below.refl _ _).alloc (Nat.le_refl _) _).trans (hb.mono (by simp))⟩
def qfix_signed.f (a0 : Int) (a1 : Int) (a2 : Bool) : Option (Int × Bool) :=
  if a0 = 0 then (if a1 > 70368744177664 then some (clampZ (turnZ a2 70368744177664), true) else some (clampZ (turnZ a2 (wrap64 a1)), clampB (turnZ a2 (wrap64 a1)))) else some (clampZ (turnZ a2 70368744177664), true)
theorem qfix_signed.calls (a0 : Int) (a1 : Int) (a2 : Bool) (r1 : Int) (r2 : Bool) (w : World) (h : qfix_signed.f a0 a1 a2 = some (r1, r2)) :
    Calls Try.prog 66 #[.int .u64 a0, .int .u64 a1, .bool a2] w fun e w' => e = .returned (.tuple #[.int .i64 r1, .bool r2]) ∧ Below w.heap.size w w' := by
  unfold qfix_signed.f at h
  by_cases h0 : a0 = 0
  · rw [if_pos h0] at h
    by_cases h1 : a1 > 70368744177664
    · rw [if_pos h1] at h
      simp only [Option.some.injEq, Prod.mk.injEq] at h
      obtain ⟨rfl, rfl⟩ := h
      exact signed_far a0 a1 a2 w (.inr ⟨by simp [h0], by simpa using h1⟩)
    · rw [if_neg h1] at h
      simp only [Option.some.injEq, Prod.mk.injEq] at h
      obtain ⟨rfl, rfl⟩ := h
      exact signed_near a0 a1 a2 w (by simp [h0]) (by simpa using h1)
  · rw [if_neg h0] at h
    simp only [Option.some.injEq, Prod.mk.injEq] at h
    obtain ⟨rfl, rfl⟩ := h
    exact signed_far a0 a1 a2 w (.inl (by simp [h0]))

/-! ### qfix_Mul: function 35 -/
def qfix_Mul.f (a0 : Int) (a1 : Int) : Option (Int × Bool) := (qfix_both.f a0 a1).bind fun bt143 => ((qfix_size.f bt143.1).bind fun t146 => ((qfix_size.f bt143.2.1).bind fun t147 => ((bits_Mul64.f t146 t147).bind fun bt148 => (if (Go.bits .and .u64 bt148.2 16777215) > 8388608 then ((qfix_signed.f (bt148.1 / 16777216) (IntKind.u64.wrap ((Go.bits .or .u64 (bt148.2 / 16777216) (IntKind.u64.wrap (bt148.1 * 1099511627776))) + 1)) ((decide (bt143.1 < 0)) != (decide (bt143.2.1 < 0)))).bind fun bt150 => (if bt143.2.2 = true then (some (bt150.1, true)) else (some (bt150.1, bt150.2)))) else (if (Go.bits .and .u64 bt148.2 16777215) = 8388608 then (if (Go.bits .and .u64 (Go.bits .or .u64 (bt148.2 / 16777216) (IntKind.u64.wrap (bt148.1 * 1099511627776))) 1) = 1 then ((qfix_signed.f (bt148.1 / 16777216) (IntKind.u64.wrap ((Go.bits .or .u64 (bt148.2 / 16777216) (IntKind.u64.wrap (bt148.1 * 1099511627776))) + 1)) ((decide (bt143.1 < 0)) != (decide (bt143.2.1 < 0)))).bind fun bt152 => (if bt143.2.2 = true then (some (bt152.1, true)) else (some (bt152.1, bt152.2)))) else ((qfix_signed.f (bt148.1 / 16777216) (Go.bits .or .u64 (bt148.2 / 16777216) (IntKind.u64.wrap (bt148.1 * 1099511627776))) ((decide (bt143.1 < 0)) != (decide (bt143.2.1 < 0)))).bind fun bt154 => (if bt143.2.2 = true then (some (bt154.1, true)) else (some (bt154.1, bt154.2))))) else ((qfix_signed.f (bt148.1 / 16777216) (Go.bits .or .u64 (bt148.2 / 16777216) (IntKind.u64.wrap (bt148.1 * 1099511627776))) ((decide (bt143.1 < 0)) != (decide (bt143.2.1 < 0)))).bind fun bt156 => (if bt143.2.2 = true then (some (bt156.1, true)) else (some (bt156.1, bt156.2)))))))))
set_option maxHeartbeats 8000000 in
set_option maxRecDepth 100000 in
theorem qfix_Mul.calls (a0 : Int) (a1 : Int) (r1 : Int) (r2 : Bool) (w : World) (h : qfix_Mul.f a0 a1 = some (r1, r2)) :
    Calls Try.prog 35 #[.int .i64 a0, .int .i64 a1] w fun e w' => e = .returned (.tuple #[.int .i64 r1, .bool r2]) ∧ Below w.heap.size w w' := by
  have HB := Aside0.mk (Below.refl w.heap.size w)
  have H : ((qfix_both.f a0 a1).bind fun bt143 => ((qfix_size.f bt143.1).bind fun t146 => ((qfix_size.f bt143.2.1).bind fun t147 => ((bits_Mul64.f t146 t147).bind fun bt148 => (if (Go.bits .and .u64 bt148.2 16777215) > 8388608 then ((qfix_signed.f (bt148.1 / 16777216) (IntKind.u64.wrap ((Go.bits .or .u64 (bt148.2 / 16777216) (IntKind.u64.wrap (bt148.1 * 1099511627776))) + 1)) ((decide (bt143.1 < 0)) != (decide (bt143.2.1 < 0)))).bind fun bt150 => (if bt143.2.2 = true then (some (bt150.1, true)) else (some (bt150.1, bt150.2)))) else (if (Go.bits .and .u64 bt148.2 16777215) = 8388608 then (if (Go.bits .and .u64 (Go.bits .or .u64 (bt148.2 / 16777216) (IntKind.u64.wrap (bt148.1 * 1099511627776))) 1) = 1 then ((qfix_signed.f (bt148.1 / 16777216) (IntKind.u64.wrap ((Go.bits .or .u64 (bt148.2 / 16777216) (IntKind.u64.wrap (bt148.1 * 1099511627776))) + 1)) ((decide (bt143.1 < 0)) != (decide (bt143.2.1 < 0)))).bind fun bt152 => (if bt143.2.2 = true then (some (bt152.1, true)) else (some (bt152.1, bt152.2)))) else ((qfix_signed.f (bt148.1 / 16777216) (Go.bits .or .u64 (bt148.2 / 16777216) (IntKind.u64.wrap (bt148.1 * 1099511627776))) ((decide (bt143.1 < 0)) != (decide (bt143.2.1 < 0)))).bind fun bt154 => (if bt143.2.2 = true then (some (bt154.1, true)) else (some (bt154.1, bt154.2))))) else ((qfix_signed.f (bt148.1 / 16777216) (Go.bits .or .u64 (bt148.2 / 16777216) (IntKind.u64.wrap (bt148.1 * 1099511627776))) ((decide (bt143.1 < 0)) != (decide (bt143.2.1 < 0)))).bind fun bt156 => (if bt143.2.2 = true then (some (bt156.1, true)) else (some (bt156.1, bt156.2)))))))))) = some (r1, r2) := h
  clear h
  replace H := Option.bind_eq_some_iff.mp H
  obtain ⟨⟨t143, t144, t145⟩, A30, H⟩ := H
  replace H : ((qfix_size.f t143).bind fun t146 => ((qfix_size.f t144).bind fun t147 => ((bits_Mul64.f t146 t147).bind fun bt148 => (if (Go.bits .and .u64 bt148.2 16777215) > 8388608 then ((qfix_signed.f (bt148.1 / 16777216) (IntKind.u64.wrap ((Go.bits .or .u64 (bt148.2 / 16777216) (IntKind.u64.wrap (bt148.1 * 1099511627776))) + 1)) ((decide (t143 < 0)) != (decide (t144 < 0)))).bind fun bt150 => (if t145 = true then (some (bt150.1, true)) else (some (bt150.1, bt150.2)))) else (if (Go.bits .and .u64 bt148.2 16777215) = 8388608 then (if (Go.bits .and .u64 (Go.bits .or .u64 (bt148.2 / 16777216) (IntKind.u64.wrap (bt148.1 * 1099511627776))) 1) = 1 then ((qfix_signed.f (bt148.1 / 16777216) (IntKind.u64.wrap ((Go.bits .or .u64 (bt148.2 / 16777216) (IntKind.u64.wrap (bt148.1 * 1099511627776))) + 1)) ((decide (t143 < 0)) != (decide (t144 < 0)))).bind fun bt152 => (if t145 = true then (some (bt152.1, true)) else (some (bt152.1, bt152.2)))) else ((qfix_signed.f (bt148.1 / 16777216) (Go.bits .or .u64 (bt148.2 / 16777216) (IntKind.u64.wrap (bt148.1 * 1099511627776))) ((decide (t143 < 0)) != (decide (t144 < 0)))).bind fun bt154 => (if t145 = true then (some (bt154.1, true)) else (some (bt154.1, bt154.2))))) else ((qfix_signed.f (bt148.1 / 16777216) (Go.bits .or .u64 (bt148.2 / 16777216) (IntKind.u64.wrap (bt148.1 * 1099511627776))) ((decide (t143 < 0)) != (decide (t144 < 0)))).bind fun bt156 => (if t145 = true then (some (bt156.1, true)) else (some (bt156.1, bt156.2))))))))) = some (r1, r2) := H
  have A3 := Aside0.mk A30
  clear A30
  replace H := Option.bind_eq_some_iff.mp H
  obtain ⟨t146, A40, H⟩ := H
  replace H : ((qfix_size.f t144).bind fun t147 => ((bits_Mul64.f t146 t147).bind fun bt148 => (if (Go.bits .and .u64 bt148.2 16777215) > 8388608 then ((qfix_signed.f (bt148.1 / 16777216) (IntKind.u64.wrap ((Go.bits .or .u64 (bt148.2 / 16777216) (IntKind.u64.wrap (bt148.1 * 1099511627776))) + 1)) ((decide (t143 < 0)) != (decide (t144 < 0)))).bind fun bt150 => (if t145 = true then (some (bt150.1, true)) else (some (bt150.1, bt150.2)))) else (if (Go.bits .and .u64 bt148.2 16777215) = 8388608 then (if (Go.bits .and .u64 (Go.bits .or .u64 (bt148.2 / 16777216) (IntKind.u64.wrap (bt148.1 * 1099511627776))) 1) = 1 then ((qfix_signed.f (bt148.1 / 16777216) (IntKind.u64.wrap ((Go.bits .or .u64 (bt148.2 / 16777216) (IntKind.u64.wrap (bt148.1 * 1099511627776))) + 1)) ((decide (t143 < 0)) != (decide (t144 < 0)))).bind fun bt152 => (if t145 = true then (some (bt152.1, true)) else (some (bt152.1, bt152.2)))) else ((qfix_signed.f (bt148.1 / 16777216) (Go.bits .or .u64 (bt148.2 / 16777216) (IntKind.u64.wrap (bt148.1 * 1099511627776))) ((decide (t143 < 0)) != (decide (t144 < 0)))).bind fun bt154 => (if t145 = true then (some (bt154.1, true)) else (some (bt154.1, bt154.2))))) else ((qfix_signed.f (bt148.1 / 16777216) (Go.bits .or .u64 (bt148.2 / 16777216) (IntKind.u64.wrap (bt148.1 * 1099511627776))) ((decide (t143 < 0)) != (decide (t144 < 0)))).bind fun bt156 => (if t145 = true then (some (bt156.1, true)) else (some (bt156.1, bt156.2)))))))) = some (r1, r2) := H
  have A4 := Aside0.mk A40
  clear A40
  replace H := Option.bind_eq_some_iff.mp H
  obtain ⟨t147, A50, H⟩ := H
  replace H : ((bits_Mul64.f t146 t147).bind fun bt148 => (if (Go.bits .and .u64 bt148.2 16777215) > 8388608 then ((qfix_signed.f (bt148.1 / 16777216) (IntKind.u64.wrap ((Go.bits .or .u64 (bt148.2 / 16777216) (IntKind.u64.wrap (bt148.1 * 1099511627776))) + 1)) ((decide (t143 < 0)) != (decide (t144 < 0)))).bind fun bt150 => (if t145 = true then (some (bt150.1, true)) else (some (bt150.1, bt150.2)))) else (if (Go.bits .and .u64 bt148.2 16777215) = 8388608 then (if (Go.bits .and .u64 (Go.bits .or .u64 (bt148.2 / 16777216) (IntKind.u64.wrap (bt148.1 * 1099511627776))) 1) = 1 then ((qfix_signed.f (bt148.1 / 16777216) (IntKind.u64.wrap ((Go.bits .or .u64 (bt148.2 / 16777216) (IntKind.u64.wrap (bt148.1 * 1099511627776))) + 1)) ((decide (t143 < 0)) != (decide (t144 < 0)))).bind fun bt152 => (if t145 = true then (some (bt152.1, true)) else (some (bt152.1, bt152.2)))) else ((qfix_signed.f (bt148.1 / 16777216) (Go.bits .or .u64 (bt148.2 / 16777216) (IntKind.u64.wrap (bt148.1 * 1099511627776))) ((decide (t143 < 0)) != (decide (t144 < 0)))).bind fun bt154 => (if t145 = true then (some (bt154.1, true)) else (some (bt154.1, bt154.2))))) else ((qfix_signed.f (bt148.1 / 16777216) (Go.bits .or .u64 (bt148.2 / 16777216) (IntKind.u64.wrap (bt148.1 * 1099511627776))) ((decide (t143 < 0)) != (decide (t144 < 0)))).bind fun bt156 => (if t145 = true then (some (bt156.1, true)) else (some (bt156.1, bt156.2))))))) = some (r1, r2) := H
  have A5 := Aside0.mk A50
  clear A50
  replace H := Option.bind_eq_some_iff.mp H
  obtain ⟨⟨t148, t149⟩, A60, H⟩ := H
  replace H : (if (Go.bits .and .u64 t149 16777215) > 8388608 then ((qfix_signed.f (t148 / 16777216) (IntKind.u64.wrap ((Go.bits .or .u64 (t149 / 16777216) (IntKind.u64.wrap (t148 * 1099511627776))) + 1)) ((decide (t143 < 0)) != (decide (t144 < 0)))).bind fun bt150 => (if t145 = true then (some (bt150.1, true)) else (some (bt150.1, bt150.2)))) else (if (Go.bits .and .u64 t149 16777215) = 8388608 then (if (Go.bits .and .u64 (Go.bits .or .u64 (t149 / 16777216) (IntKind.u64.wrap (t148 * 1099511627776))) 1) = 1 then ((qfix_signed.f (t148 / 16777216) (IntKind.u64.wrap ((Go.bits .or .u64 (t149 / 16777216) (IntKind.u64.wrap (t148 * 1099511627776))) + 1)) ((decide (t143 < 0)) != (decide (t144 < 0)))).bind fun bt152 => (if t145 = true then (some (bt152.1, true)) else (some (bt152.1, bt152.2)))) else ((qfix_signed.f (t148 / 16777216) (Go.bits .or .u64 (t149 / 16777216) (IntKind.u64.wrap (t148 * 1099511627776))) ((decide (t143 < 0)) != (decide (t144 < 0)))).bind fun bt154 => (if t145 = true then (some (bt154.1, true)) else (some (bt154.1, bt154.2))))) else ((qfix_signed.f (t148 / 16777216) (Go.bits .or .u64 (t149 / 16777216) (IntKind.u64.wrap (t148 * 1099511627776))) ((decide (t143 < 0)) != (decide (t144 < 0)))).bind fun bt156 => (if t145 = true then (some (bt156.1, true)) else (some (bt156.1, bt156.2)))))) = some (r1, r2) := H
  have A6 := Aside0.mk A60
  clear A60
  by_cases c7 : (Go.bits .and .u64 t149 16777215) > 8388608
  · rw [if_pos c7] at H
    have c7b0 : decide (8388608 < (Go.bits .and .u64 t149 16777215)) = true := decide_eq_true c7
    clear c7
    replace H := Option.bind_eq_some_iff.mp H
    obtain ⟨⟨t150, t151⟩, A80, H⟩ := H
    replace H : (if t145 = true then (some (t150, true)) else (some (t150, t151))) = some (r1, r2) := H
    have A8 := Aside0.mk A80
    clear A80
    by_cases c9 : t145 = true
    · subst c9
      have H1 : (some (t150, true)) = some (r1, r2) := by rw [if_pos rfl] at H; exact H
      clear H
      have H := H1
      clear H1
      simp only [Option.some.injEq, Prod.mk.injEq] at H
      obtain ⟨rfl, rfl⟩ := H
      go_enter Try.func35, Try.ntmps35
      go_wp2_with (first | ((with_reducible refine gate_callee (f := 63) rfl ?_); refine goesL_ (some 15) rfl rfl Try.func63 (by kernel_rfl) rfl #[.int .i64 a0, .int .i64 a1] rfl (by (try simp only [List.map_toArray, List.map_cons, List.map_nil]); first | done | rfl | (simp only [List.length_drop, List.length_take]; rfl)) ?_; (with_reducible refine (qfix_both.calls a0 a1 t143 t144 true _ A3.out).mono ?_); rintro e w10 ⟨rfl, hb⟩; refine ⟨_, rfl, ?_⟩; have n0_ := Aside0.mk (below_step (by repeat (first | (with_reducible first | exact HB.out | apply below_alloc | apply pw_below_drewN | apply below_drew1) | exact HB.out)) hb); clear HB; have HB := n0_; clear n0_; (try clear hb); (try clear hb2); (try clear hk); (try clear hi)) | ((with_reducible refine gate_callee (f := 65) rfl ?_); refine goesL_ (some 21) rfl rfl Try.func65 (by kernel_rfl) rfl #[.int .i64 t143] rfl (by (try simp only [List.map_toArray, List.map_cons, List.map_nil]); first | done | rfl | (simp only [List.length_drop, List.length_take]; rfl)) ?_; (with_reducible refine (qfix_size.calls t143 t146 _ A4.out).mono ?_); rintro e w' ⟨rfl, ⟨nd, rfl⟩⟩; refine ⟨_, rfl, ?_⟩) | ((with_reducible refine gate_callee (f := 65) rfl ?_); refine goesL_ (some 23) rfl rfl Try.func65 (by kernel_rfl) rfl #[.int .i64 t144] rfl (by (try simp only [List.map_toArray, List.map_cons, List.map_nil]); first | done | rfl | (simp only [List.length_drop, List.length_take]; rfl)) ?_; (with_reducible refine (qfix_size.calls t144 t147 _ A5.out).mono ?_); rintro e w' ⟨rfl, ⟨nd, rfl⟩⟩; refine ⟨_, rfl, ?_⟩) | ((with_reducible refine gate_callee (f := 64) rfl ?_); refine goesL_ (some 24) rfl rfl Try.func64 (by kernel_rfl) rfl #[.int .u64 t146, .int .u64 t147] rfl (by (try simp only [List.map_toArray, List.map_cons, List.map_nil]); first | done | rfl | (simp only [List.length_drop, List.length_take]; rfl)) ?_; (with_reducible refine (bits_Mul64.calls t146 t147 t148 t149 _ A6.out).mono ?_); rintro e w' ⟨rfl, ⟨nd, rfl⟩⟩; refine ⟨_, rfl, ?_⟩) | ((with_reducible refine gate_callee (f := 66) rfl ?_); refine goesL_ (some 57) rfl rfl Try.func66 (by kernel_rfl) rfl #[.int .u64 (t148 / 16777216), .int .u64 (IntKind.u64.wrap ((Go.bits .or .u64 (t149 / 16777216) (IntKind.u64.wrap (t148 * 1099511627776))) + 1)), .bool ((decide (t143 < 0)) != (decide (t144 < 0)))] rfl (by (try simp only [List.map_toArray, List.map_cons, List.map_nil]); first | done | rfl | (simp only [List.length_drop, List.length_take]; rfl)) ?_; (with_reducible refine (qfix_signed.calls (t148 / 16777216) (IntKind.u64.wrap ((Go.bits .or .u64 (t149 / 16777216) (IntKind.u64.wrap (t148 * 1099511627776))) + 1)) ((decide (t143 < 0)) != (decide (t144 < 0))) t150 t151 _ A8.out).mono ?_); rintro e w11 ⟨rfl, hb⟩; refine ⟨_, rfl, ?_⟩; have n0_ := Aside0.mk (below_step (by repeat (first | (with_reducible first | exact HB.out | apply below_alloc | apply pw_below_drewN | apply below_drew1) | exact HB.out)) hb); clear HB; have HB := n0_; clear n0_; (try clear hb); (try clear hb2); (try clear hk); (try clear hi)))
      go_ret2
      exact ⟨by first | rfl | (simp [errW_none, errW_some] <;> rfl) | (simp [*, errW_none, errW_some] <;> rfl), by repeat (first | (with_reducible first | exact HB.out | apply below_alloc | apply pw_below_drewN | apply below_drew1) | exact HB.out)⟩
    · replace c9 := Bool.eq_false_iff.mpr c9
      subst c9
      have H1 : (some (t150, t151)) = some (r1, r2) := by rw [if_neg (show ¬ (false = true) by decide)] at H; exact H
      clear H
      have H := H1
      clear H1
      simp only [Option.some.injEq, Prod.mk.injEq] at H
      obtain ⟨rfl, rfl⟩ := H
      go_enter Try.func35, Try.ntmps35
      go_wp2_with (first | ((with_reducible refine gate_callee (f := 63) rfl ?_); refine goesL_ (some 15) rfl rfl Try.func63 (by kernel_rfl) rfl #[.int .i64 a0, .int .i64 a1] rfl (by (try simp only [List.map_toArray, List.map_cons, List.map_nil]); first | done | rfl | (simp only [List.length_drop, List.length_take]; rfl)) ?_; (with_reducible refine (qfix_both.calls a0 a1 t143 t144 false _ A3.out).mono ?_); rintro e w12 ⟨rfl, hb⟩; refine ⟨_, rfl, ?_⟩; have n0_ := Aside0.mk (below_step (by repeat (first | (with_reducible first | exact HB.out | apply below_alloc | apply pw_below_drewN | apply below_drew1) | exact HB.out)) hb); clear HB; have HB := n0_; clear n0_; (try clear hb); (try clear hb2); (try clear hk); (try clear hi)) | ((with_reducible refine gate_callee (f := 65) rfl ?_); refine goesL_ (some 21) rfl rfl Try.func65 (by kernel_rfl) rfl #[.int .i64 t143] rfl (by (try simp only [List.map_toArray, List.map_cons, List.map_nil]); first | done | rfl | (simp only [List.length_drop, List.length_take]; rfl)) ?_; (with_reducible refine (qfix_size.calls t143 t146 _ A4.out).mono ?_); rintro e w' ⟨rfl, ⟨nd, rfl⟩⟩; refine ⟨_, rfl, ?_⟩) | ((with_reducible refine gate_callee (f := 65) rfl ?_); refine goesL_ (some 23) rfl rfl Try.func65 (by kernel_rfl) rfl #[.int .i64 t144] rfl (by (try simp only [List.map_toArray, List.map_cons, List.map_nil]); first | done | rfl | (simp only [List.length_drop, List.length_take]; rfl)) ?_; (with_reducible refine (qfix_size.calls t144 t147 _ A5.out).mono ?_); rintro e w' ⟨rfl, ⟨nd, rfl⟩⟩; refine ⟨_, rfl, ?_⟩) | ((with_reducible refine gate_callee (f := 64) rfl ?_); refine goesL_ (some 24) rfl rfl Try.func64 (by kernel_rfl) rfl #[.int .u64 t146, .int .u64 t147] rfl (by (try simp only [List.map_toArray, List.map_cons, List.map_nil]); first | done | rfl | (simp only [List.length_drop, List.length_take]; rfl)) ?_; (with_reducible refine (bits_Mul64.calls t146 t147 t148 t149 _ A6.out).mono ?_); rintro e w' ⟨rfl, ⟨nd, rfl⟩⟩; refine ⟨_, rfl, ?_⟩) | ((with_reducible refine gate_callee (f := 66) rfl ?_); refine goesL_ (some 57) rfl rfl Try.func66 (by kernel_rfl) rfl #[.int .u64 (t148 / 16777216), .int .u64 (IntKind.u64.wrap ((Go.bits .or .u64 (t149 / 16777216) (IntKind.u64.wrap (t148 * 1099511627776))) + 1)), .bool ((decide (t143 < 0)) != (decide (t144 < 0)))] rfl (by (try simp only [List.map_toArray, List.map_cons, List.map_nil]); first | done | rfl | (simp only [List.length_drop, List.length_take]; rfl)) ?_; (with_reducible refine (qfix_signed.calls (t148 / 16777216) (IntKind.u64.wrap ((Go.bits .or .u64 (t149 / 16777216) (IntKind.u64.wrap (t148 * 1099511627776))) + 1)) ((decide (t143 < 0)) != (decide (t144 < 0))) t150 t151 _ A8.out).mono ?_); rintro e w13 ⟨rfl, hb⟩; refine ⟨_, rfl, ?_⟩; have n0_ := Aside0.mk (below_step (by repeat (first | (with_reducible first | exact HB.out | apply below_alloc | apply pw_below_drewN | apply below_drew1) | exact HB.out)) hb); clear HB; have HB := n0_; clear n0_; (try clear hb); (try clear hb2); (try clear hk); (try clear hi)))
      go_ret2
      exact ⟨by first | rfl | (simp [errW_none, errW_some] <;> rfl) | (simp [*, errW_none, errW_some] <;> rfl), by repeat (first | (with_reducible first | exact HB.out | apply below_alloc | apply pw_below_drewN | apply below_drew1) | exact HB.out)⟩
  · rw [if_neg c7] at H
    have c7b0 : decide (8388608 < (Go.bits .and .u64 t149 16777215)) = false := decide_eq_false c7
    clear c7
    by_cases c14 : (Go.bits .and .u64 t149 16777215) = 8388608
    · rw [if_pos c14] at H
      have c14b0 : ((Go.bits .and .u64 t149 16777215) == 8388608) = true := beq_iff_eq.mpr c14
      have c14b1 : ((Go.bits .and .u64 t149 16777215) != 8388608) = false := bne_eq_false_iff_eq.mpr c14
      clear c14
      by_cases c15 : (Go.bits .and .u64 (Go.bits .or .u64 (t149 / 16777216) (IntKind.u64.wrap (t148 * 1099511627776))) 1) = 1
      · rw [if_pos c15] at H
        have c15b0 : ((Go.bits .and .u64 (Go.bits .or .u64 (t149 / 16777216) (IntKind.u64.wrap (t148 * 1099511627776))) 1) == 1) = true := beq_iff_eq.mpr c15
        have c15b1 : ((Go.bits .and .u64 (Go.bits .or .u64 (t149 / 16777216) (IntKind.u64.wrap (t148 * 1099511627776))) 1) != 1) = false := bne_eq_false_iff_eq.mpr c15
        clear c15
        replace H := Option.bind_eq_some_iff.mp H
        obtain ⟨⟨t152, t153⟩, A160, H⟩ := H
        replace H : (if t145 = true then (some (t152, true)) else (some (t152, t153))) = some (r1, r2) := H
        have A16 := Aside0.mk A160
        clear A160
        by_cases c17 : t145 = true
        · subst c17
          have H1 : (some (t152, true)) = some (r1, r2) := by rw [if_pos rfl] at H; exact H
          clear H
          have H := H1
          clear H1
          simp only [Option.some.injEq, Prod.mk.injEq] at H
          obtain ⟨rfl, rfl⟩ := H
          go_enter Try.func35, Try.ntmps35
          go_wp2_with (first | ((with_reducible refine gate_callee (f := 63) rfl ?_); refine goesL_ (some 15) rfl rfl Try.func63 (by kernel_rfl) rfl #[.int .i64 a0, .int .i64 a1] rfl (by (try simp only [List.map_toArray, List.map_cons, List.map_nil]); first | done | rfl | (simp only [List.length_drop, List.length_take]; rfl)) ?_; (with_reducible refine (qfix_both.calls a0 a1 t143 t144 true _ A3.out).mono ?_); rintro e w18 ⟨rfl, hb⟩; refine ⟨_, rfl, ?_⟩; have n0_ := Aside0.mk (below_step (by repeat (first | (with_reducible first | exact HB.out | apply below_alloc | apply pw_below_drewN | apply below_drew1) | exact HB.out)) hb); clear HB; have HB := n0_; clear n0_; (try clear hb); (try clear hb2); (try clear hk); (try clear hi)) | ((with_reducible refine gate_callee (f := 65) rfl ?_); refine goesL_ (some 21) rfl rfl Try.func65 (by kernel_rfl) rfl #[.int .i64 t143] rfl (by (try simp only [List.map_toArray, List.map_cons, List.map_nil]); first | done | rfl | (simp only [List.length_drop, List.length_take]; rfl)) ?_; (with_reducible refine (qfix_size.calls t143 t146 _ A4.out).mono ?_); rintro e w' ⟨rfl, ⟨nd, rfl⟩⟩; refine ⟨_, rfl, ?_⟩) | ((with_reducible refine gate_callee (f := 65) rfl ?_); refine goesL_ (some 23) rfl rfl Try.func65 (by kernel_rfl) rfl #[.int .i64 t144] rfl (by (try simp only [List.map_toArray, List.map_cons, List.map_nil]); first | done | rfl | (simp only [List.length_drop, List.length_take]; rfl)) ?_; (with_reducible refine (qfix_size.calls t144 t147 _ A5.out).mono ?_); rintro e w' ⟨rfl, ⟨nd, rfl⟩⟩; refine ⟨_, rfl, ?_⟩) | ((with_reducible refine gate_callee (f := 64) rfl ?_); refine goesL_ (some 24) rfl rfl Try.func64 (by kernel_rfl) rfl #[.int .u64 t146, .int .u64 t147] rfl (by (try simp only [List.map_toArray, List.map_cons, List.map_nil]); first | done | rfl | (simp only [List.length_drop, List.length_take]; rfl)) ?_; (with_reducible refine (bits_Mul64.calls t146 t147 t148 t149 _ A6.out).mono ?_); rintro e w' ⟨rfl, ⟨nd, rfl⟩⟩; refine ⟨_, rfl, ?_⟩) | ((with_reducible refine gate_callee (f := 66) rfl ?_); refine goesL_ (some 57) rfl rfl Try.func66 (by kernel_rfl) rfl #[.int .u64 (t148 / 16777216), .int .u64 (IntKind.u64.wrap ((Go.bits .or .u64 (t149 / 16777216) (IntKind.u64.wrap (t148 * 1099511627776))) + 1)), .bool ((decide (t143 < 0)) != (decide (t144 < 0)))] rfl (by (try simp only [List.map_toArray, List.map_cons, List.map_nil]); first | done | rfl | (simp only [List.length_drop, List.length_take]; rfl)) ?_; (with_reducible refine (qfix_signed.calls (t148 / 16777216) (IntKind.u64.wrap ((Go.bits .or .u64 (t149 / 16777216) (IntKind.u64.wrap (t148 * 1099511627776))) + 1)) ((decide (t143 < 0)) != (decide (t144 < 0))) t152 t153 _ A16.out).mono ?_); rintro e w19 ⟨rfl, hb⟩; refine ⟨_, rfl, ?_⟩; have n0_ := Aside0.mk (below_step (by repeat (first | (with_reducible first | exact HB.out | apply below_alloc | apply pw_below_drewN | apply below_drew1) | exact HB.out)) hb); clear HB; have HB := n0_; clear n0_; (try clear hb); (try clear hb2); (try clear hk); (try clear hi)))
          go_ret2
          exact ⟨by first | rfl | (simp [errW_none, errW_some] <;> rfl) | (simp [*, errW_none, errW_some] <;> rfl), by repeat (first | (with_reducible first | exact HB.out | apply below_alloc | apply pw_below_drewN | apply below_drew1) | exact HB.out)⟩
        · replace c17 := Bool.eq_false_iff.mpr c17
          subst c17
          have H1 : (some (t152, t153)) = some (r1, r2) := by rw [if_neg (show ¬ (false = true) by decide)] at H; exact H
          clear H
          have H := H1
          clear H1
          simp only [Option.some.injEq, Prod.mk.injEq] at H
          obtain ⟨rfl, rfl⟩ := H
          go_enter Try.func35, Try.ntmps35
          go_wp2_with (first | ((with_reducible refine gate_callee (f := 63) rfl ?_); refine goesL_ (some 15) rfl rfl Try.func63 (by kernel_rfl) rfl #[.int .i64 a0, .int .i64 a1] rfl (by (try simp only [List.map_toArray, List.map_cons, List.map_nil]); first | done | rfl | (simp only [List.length_drop, List.length_take]; rfl)) ?_; (with_reducible refine (qfix_both.calls a0 a1 t143 t144 false _ A3.out).mono ?_); rintro e w20 ⟨rfl, hb⟩; refine ⟨_, rfl, ?_⟩; have n0_ := Aside0.mk (below_step (by repeat (first | (with_reducible first | exact HB.out | apply below_alloc | apply pw_below_drewN | apply below_drew1) | exact HB.out)) hb); clear HB; have HB := n0_; clear n0_; (try clear hb); (try clear hb2); (try clear hk); (try clear hi)) | ((with_reducible refine gate_callee (f := 65) rfl ?_); refine goesL_ (some 21) rfl rfl Try.func65 (by kernel_rfl) rfl #[.int .i64 t143] rfl (by (try simp only [List.map_toArray, List.map_cons, List.map_nil]); first | done | rfl | (simp only [List.length_drop, List.length_take]; rfl)) ?_; (with_reducible refine (qfix_size.calls t143 t146 _ A4.out).mono ?_); rintro e w' ⟨rfl, ⟨nd, rfl⟩⟩; refine ⟨_, rfl, ?_⟩) | ((with_reducible refine gate_callee (f := 65) rfl ?_); refine goesL_ (some 23) rfl rfl Try.func65 (by kernel_rfl) rfl #[.int .i64 t144] rfl (by (try simp only [List.map_toArray, List.map_cons, List.map_nil]); first | done | rfl | (simp only [List.length_drop, List.length_take]; rfl)) ?_; (with_reducible refine (qfix_size.calls t144 t147 _ A5.out).mono ?_); rintro e w' ⟨rfl, ⟨nd, rfl⟩⟩; refine ⟨_, rfl, ?_⟩) | ((with_reducible refine gate_callee (f := 64) rfl ?_); refine goesL_ (some 24) rfl rfl Try.func64 (by kernel_rfl) rfl #[.int .u64 t146, .int .u64 t147] rfl (by (try simp only [List.map_toArray, List.map_cons, List.map_nil]); first | done | rfl | (simp only [List.length_drop, List.length_take]; rfl)) ?_; (with_reducible refine (bits_Mul64.calls t146 t147 t148 t149 _ A6.out).mono ?_); rintro e w' ⟨rfl, ⟨nd, rfl⟩⟩; refine ⟨_, rfl, ?_⟩) | ((with_reducible refine gate_callee (f := 66) rfl ?_); refine goesL_ (some 57) rfl rfl Try.func66 (by kernel_rfl) rfl #[.int .u64 (t148 / 16777216), .int .u64 (IntKind.u64.wrap ((Go.bits .or .u64 (t149 / 16777216) (IntKind.u64.wrap (t148 * 1099511627776))) + 1)), .bool ((decide (t143 < 0)) != (decide (t144 < 0)))] rfl (by (try simp only [List.map_toArray, List.map_cons, List.map_nil]); first | done | rfl | (simp only [List.length_drop, List.length_take]; rfl)) ?_; (with_reducible refine (qfix_signed.calls (t148 / 16777216) (IntKind.u64.wrap ((Go.bits .or .u64 (t149 / 16777216) (IntKind.u64.wrap (t148 * 1099511627776))) + 1)) ((decide (t143 < 0)) != (decide (t144 < 0))) t152 t153 _ A16.out).mono ?_); rintro e w21 ⟨rfl, hb⟩; refine ⟨_, rfl, ?_⟩; have n0_ := Aside0.mk (below_step (by repeat (first | (with_reducible first | exact HB.out | apply below_alloc | apply pw_below_drewN | apply below_drew1) | exact HB.out)) hb); clear HB; have HB := n0_; clear n0_; (try clear hb); (try clear hb2); (try clear hk); (try clear hi)))
          go_ret2
          exact ⟨by first | rfl | (simp [errW_none, errW_some] <;> rfl) | (simp [*, errW_none, errW_some] <;> rfl), by repeat (first | (with_reducible first | exact HB.out | apply below_alloc | apply pw_below_drewN | apply below_drew1) | exact HB.out)⟩
      · rw [if_neg c15] at H
        have c15b0 : ((Go.bits .and .u64 (Go.bits .or .u64 (t149 / 16777216) (IntKind.u64.wrap (t148 * 1099511627776))) 1) == 1) = false := beq_eq_false_iff_ne.mpr c15
        have c15b1 : ((Go.bits .and .u64 (Go.bits .or .u64 (t149 / 16777216) (IntKind.u64.wrap (t148 * 1099511627776))) 1) != 1) = true := bne_iff_ne.mpr c15
        replace H := Option.bind_eq_some_iff.mp H
        obtain ⟨⟨t154, t155⟩, A220, H⟩ := H
        replace H : (if t145 = true then (some (t154, true)) else (some (t154, t155))) = some (r1, r2) := H
        have A22 := Aside0.mk A220
        clear A220
        by_cases c23 : t145 = true
        · subst c23
          have H1 : (some (t154, true)) = some (r1, r2) := by rw [if_pos rfl] at H; exact H
          clear H
          have H := H1
          clear H1
          simp only [Option.some.injEq, Prod.mk.injEq] at H
          obtain ⟨rfl, rfl⟩ := H
          go_enter Try.func35, Try.ntmps35
          go_wp2_with (first | ((with_reducible refine gate_callee (f := 63) rfl ?_); refine goesL_ (some 15) rfl rfl Try.func63 (by kernel_rfl) rfl #[.int .i64 a0, .int .i64 a1] rfl (by (try simp only [List.map_toArray, List.map_cons, List.map_nil]); first | done | rfl | (simp only [List.length_drop, List.length_take]; rfl)) ?_; (with_reducible refine (qfix_both.calls a0 a1 t143 t144 true _ A3.out).mono ?_); rintro e w24 ⟨rfl, hb⟩; refine ⟨_, rfl, ?_⟩; have n0_ := Aside0.mk (below_step (by repeat (first | (with_reducible first | exact HB.out | apply below_alloc | apply pw_below_drewN | apply below_drew1) | exact HB.out)) hb); clear HB; have HB := n0_; clear n0_; (try clear hb); (try clear hb2); (try clear hk); (try clear hi)) | ((with_reducible refine gate_callee (f := 65) rfl ?_); refine goesL_ (some 21) rfl rfl Try.func65 (by kernel_rfl) rfl #[.int .i64 t143] rfl (by (try simp only [List.map_toArray, List.map_cons, List.map_nil]); first | done | rfl | (simp only [List.length_drop, List.length_take]; rfl)) ?_; (with_reducible refine (qfix_size.calls t143 t146 _ A4.out).mono ?_); rintro e w' ⟨rfl, ⟨nd, rfl⟩⟩; refine ⟨_, rfl, ?_⟩) | ((with_reducible refine gate_callee (f := 65) rfl ?_); refine goesL_ (some 23) rfl rfl Try.func65 (by kernel_rfl) rfl #[.int .i64 t144] rfl (by (try simp only [List.map_toArray, List.map_cons, List.map_nil]); first | done | rfl | (simp only [List.length_drop, List.length_take]; rfl)) ?_; (with_reducible refine (qfix_size.calls t144 t147 _ A5.out).mono ?_); rintro e w' ⟨rfl, ⟨nd, rfl⟩⟩; refine ⟨_, rfl, ?_⟩) | ((with_reducible refine gate_callee (f := 64) rfl ?_); refine goesL_ (some 24) rfl rfl Try.func64 (by kernel_rfl) rfl #[.int .u64 t146, .int .u64 t147] rfl (by (try simp only [List.map_toArray, List.map_cons, List.map_nil]); first | done | rfl | (simp only [List.length_drop, List.length_take]; rfl)) ?_; (with_reducible refine (bits_Mul64.calls t146 t147 t148 t149 _ A6.out).mono ?_); rintro e w' ⟨rfl, ⟨nd, rfl⟩⟩; refine ⟨_, rfl, ?_⟩) | ((with_reducible refine gate_callee (f := 66) rfl ?_); refine goesL_ (some 57) rfl rfl Try.func66 (by kernel_rfl) rfl #[.int .u64 (t148 / 16777216), .int .u64 (Go.bits .or .u64 (t149 / 16777216) (IntKind.u64.wrap (t148 * 1099511627776))), .bool ((decide (t143 < 0)) != (decide (t144 < 0)))] rfl (by (try simp only [List.map_toArray, List.map_cons, List.map_nil]); first | done | rfl | (simp only [List.length_drop, List.length_take]; rfl)) ?_; (with_reducible refine (qfix_signed.calls (t148 / 16777216) (Go.bits .or .u64 (t149 / 16777216) (IntKind.u64.wrap (t148 * 1099511627776))) ((decide (t143 < 0)) != (decide (t144 < 0))) t154 t155 _ A22.out).mono ?_); rintro e w25 ⟨rfl, hb⟩; refine ⟨_, rfl, ?_⟩; have n0_ := Aside0.mk (below_step (by repeat (first | (with_reducible first | exact HB.out | apply below_alloc | apply pw_below_drewN | apply below_drew1) | exact HB.out)) hb); clear HB; have HB := n0_; clear n0_; (try clear hb); (try clear hb2); (try clear hk); (try clear hi)))
          go_ret2
          exact ⟨by first | rfl | (simp [errW_none, errW_some] <;> rfl) | (simp [*, errW_none, errW_some] <;> rfl), by repeat (first | (with_reducible first | exact HB.out | apply below_alloc | apply pw_below_drewN | apply below_drew1) | exact HB.out)⟩
        · replace c23 := Bool.eq_false_iff.mpr c23
          subst c23
          have H1 : (some (t154, t155)) = some (r1, r2) := by rw [if_neg (show ¬ (false = true) by decide)] at H; exact H
          clear H
          have H := H1
          clear H1
          simp only [Option.some.injEq, Prod.mk.injEq] at H
          obtain ⟨rfl, rfl⟩ := H
          go_enter Try.func35, Try.ntmps35
          go_wp2_with (first | ((with_reducible refine gate_callee (f := 63) rfl ?_); refine goesL_ (some 15) rfl rfl Try.func63 (by kernel_rfl) rfl #[.int .i64 a0, .int .i64 a1] rfl (by (try simp only [List.map_toArray, List.map_cons, List.map_nil]); first | done | rfl | (simp only [List.length_drop, List.length_take]; rfl)) ?_; (with_reducible refine (qfix_both.calls a0 a1 t143 t144 false _ A3.out).mono ?_); rintro e w26 ⟨rfl, hb⟩; refine ⟨_, rfl, ?_⟩; have n0_ := Aside0.mk (below_step (by repeat (first | (with_reducible first | exact HB.out | apply below_alloc | apply pw_below_drewN | apply below_drew1) | exact HB.out)) hb); clear HB; have HB := n0_; clear n0_; (try clear hb); (try clear hb2); (try clear hk); (try clear hi)) | ((with_reducible refine gate_callee (f := 65) rfl ?_); refine goesL_ (some 21) rfl rfl Try.func65 (by kernel_rfl) rfl #[.int .i64 t143] rfl (by (try simp only [List.map_toArray, List.map_cons, List.map_nil]); first | done | rfl | (simp only [List.length_drop, List.length_take]; rfl)) ?_; (with_reducible refine (qfix_size.calls t143 t146 _ A4.out).mono ?_); rintro e w' ⟨rfl, ⟨nd, rfl⟩⟩; refine ⟨_, rfl, ?_⟩) | ((with_reducible refine gate_callee (f := 65) rfl ?_); refine goesL_ (some 23) rfl rfl Try.func65 (by kernel_rfl) rfl #[.int .i64 t144] rfl (by (try simp only [List.map_toArray, List.map_cons, List.map_nil]); first | done | rfl | (simp only [List.length_drop, List.length_take]; rfl)) ?_; (with_reducible refine (qfix_size.calls t144 t147 _ A5.out).mono ?_); rintro e w' ⟨rfl, ⟨nd, rfl⟩⟩; refine ⟨_, rfl, ?_⟩) | ((with_reducible refine gate_callee (f := 64) rfl ?_); refine goesL_ (some 24) rfl rfl Try.func64 (by kernel_rfl) rfl #[.int .u64 t146, .int .u64 t147] rfl (by (try simp only [List.map_toArray, List.map_cons, List.map_nil]); first | done | rfl | (simp only [List.length_drop, List.length_take]; rfl)) ?_; (with_reducible refine (bits_Mul64.calls t146 t147 t148 t149 _ A6.out).mono ?_); rintro e w' ⟨rfl, ⟨nd, rfl⟩⟩; refine ⟨_, rfl, ?_⟩) | ((with_reducible refine gate_callee (f := 66) rfl ?_); refine goesL_ (some 57) rfl rfl Try.func66 (by kernel_rfl) rfl #[.int .u64 (t148 / 16777216), .int .u64 (Go.bits .or .u64 (t149 / 16777216) (IntKind.u64.wrap (t148 * 1099511627776))), .bool ((decide (t143 < 0)) != (decide (t144 < 0)))] rfl (by (try simp only [List.map_toArray, List.map_cons, List.map_nil]); first | done | rfl | (simp only [List.length_drop, List.length_take]; rfl)) ?_; (with_reducible refine (qfix_signed.calls (t148 / 16777216) (Go.bits .or .u64 (t149 / 16777216) (IntKind.u64.wrap (t148 * 1099511627776))) ((decide (t143 < 0)) != (decide (t144 < 0))) t154 t155 _ A22.out).mono ?_); rintro e w27 ⟨rfl, hb⟩; refine ⟨_, rfl, ?_⟩; have n0_ := Aside0.mk (below_step (by repeat (first | (with_reducible first | exact HB.out | apply below_alloc | apply pw_below_drewN | apply below_drew1) | exact HB.out)) hb); clear HB; have HB := n0_; clear n0_; (try clear hb); (try clear hb2); (try clear hk); (try clear hi)))
          go_ret2
          exact ⟨by first | rfl | (simp [errW_none, errW_some] <;> rfl) | (simp [*, errW_none, errW_some] <;> rfl), by repeat (first | (with_reducible first | exact HB.out | apply below_alloc | apply pw_below_drewN | apply below_drew1) | exact HB.out)⟩
    · rw [if_neg c14] at H
      have c14b0 : ((Go.bits .and .u64 t149 16777215) == 8388608) = false := beq_eq_false_iff_ne.mpr c14
      have c14b1 : ((Go.bits .and .u64 t149 16777215) != 8388608) = true := bne_iff_ne.mpr c14
      replace H := Option.bind_eq_some_iff.mp H
      obtain ⟨⟨t156, t157⟩, A280, H⟩ := H
      replace H : (if t145 = true then (some (t156, true)) else (some (t156, t157))) = some (r1, r2) := H
      have A28 := Aside0.mk A280
      clear A280
      by_cases c29 : t145 = true
      · subst c29
        have H1 : (some (t156, true)) = some (r1, r2) := by rw [if_pos rfl] at H; exact H
        clear H
        have H := H1
        clear H1
        simp only [Option.some.injEq, Prod.mk.injEq] at H
        obtain ⟨rfl, rfl⟩ := H
        go_enter Try.func35, Try.ntmps35
        go_wp2_with (first | ((with_reducible refine gate_callee (f := 63) rfl ?_); refine goesL_ (some 15) rfl rfl Try.func63 (by kernel_rfl) rfl #[.int .i64 a0, .int .i64 a1] rfl (by (try simp only [List.map_toArray, List.map_cons, List.map_nil]); first | done | rfl | (simp only [List.length_drop, List.length_take]; rfl)) ?_; (with_reducible refine (qfix_both.calls a0 a1 t143 t144 true _ A3.out).mono ?_); rintro e w30 ⟨rfl, hb⟩; refine ⟨_, rfl, ?_⟩; have n0_ := Aside0.mk (below_step (by repeat (first | (with_reducible first | exact HB.out | apply below_alloc | apply pw_below_drewN | apply below_drew1) | exact HB.out)) hb); clear HB; have HB := n0_; clear n0_; (try clear hb); (try clear hb2); (try clear hk); (try clear hi)) | ((with_reducible refine gate_callee (f := 65) rfl ?_); refine goesL_ (some 21) rfl rfl Try.func65 (by kernel_rfl) rfl #[.int .i64 t143] rfl (by (try simp only [List.map_toArray, List.map_cons, List.map_nil]); first | done | rfl | (simp only [List.length_drop, List.length_take]; rfl)) ?_; (with_reducible refine (qfix_size.calls t143 t146 _ A4.out).mono ?_); rintro e w' ⟨rfl, ⟨nd, rfl⟩⟩; refine ⟨_, rfl, ?_⟩) | ((with_reducible refine gate_callee (f := 65) rfl ?_); refine goesL_ (some 23) rfl rfl Try.func65 (by kernel_rfl) rfl #[.int .i64 t144] rfl (by (try simp only [List.map_toArray, List.map_cons, List.map_nil]); first | done | rfl | (simp only [List.length_drop, List.length_take]; rfl)) ?_; (with_reducible refine (qfix_size.calls t144 t147 _ A5.out).mono ?_); rintro e w' ⟨rfl, ⟨nd, rfl⟩⟩; refine ⟨_, rfl, ?_⟩) | ((with_reducible refine gate_callee (f := 64) rfl ?_); refine goesL_ (some 24) rfl rfl Try.func64 (by kernel_rfl) rfl #[.int .u64 t146, .int .u64 t147] rfl (by (try simp only [List.map_toArray, List.map_cons, List.map_nil]); first | done | rfl | (simp only [List.length_drop, List.length_take]; rfl)) ?_; (with_reducible refine (bits_Mul64.calls t146 t147 t148 t149 _ A6.out).mono ?_); rintro e w' ⟨rfl, ⟨nd, rfl⟩⟩; refine ⟨_, rfl, ?_⟩) | ((with_reducible refine gate_callee (f := 66) rfl ?_); refine goesL_ (some 57) rfl rfl Try.func66 (by kernel_rfl) rfl #[.int .u64 (t148 / 16777216), .int .u64 (Go.bits .or .u64 (t149 / 16777216) (IntKind.u64.wrap (t148 * 1099511627776))), .bool ((decide (t143 < 0)) != (decide (t144 < 0)))] rfl (by (try simp only [List.map_toArray, List.map_cons, List.map_nil]); first | done | rfl | (simp only [List.length_drop, List.length_take]; rfl)) ?_; (with_reducible refine (qfix_signed.calls (t148 / 16777216) (Go.bits .or .u64 (t149 / 16777216) (IntKind.u64.wrap (t148 * 1099511627776))) ((decide (t143 < 0)) != (decide (t144 < 0))) t156 t157 _ A28.out).mono ?_); rintro e w31 ⟨rfl, hb⟩; refine ⟨_, rfl, ?_⟩; have n0_ := Aside0.mk (below_step (by repeat (first | (with_reducible first | exact HB.out | apply below_alloc | apply pw_below_drewN | apply below_drew1) | exact HB.out)) hb); clear HB; have HB := n0_; clear n0_; (try clear hb); (try clear hb2); (try clear hk); (try clear hi)))
        go_ret2
        exact ⟨by first | rfl | (simp [errW_none, errW_some] <;> rfl) | (simp [*, errW_none, errW_some] <;> rfl), by repeat (first | (with_reducible first | exact HB.out | apply below_alloc | apply pw_below_drewN | apply below_drew1) | exact HB.out)⟩
      · replace c29 := Bool.eq_false_iff.mpr c29
        subst c29
        have H1 : (some (t156, t157)) = some (r1, r2) := by rw [if_neg (show ¬ (false = true) by decide)] at H; exact H
        clear H
        have H := H1
        clear H1
        simp only [Option.some.injEq, Prod.mk.injEq] at H
        obtain ⟨rfl, rfl⟩ := H
        go_enter Try.func35, Try.ntmps35
        go_wp2_with (first | ((with_reducible refine gate_callee (f := 63) rfl ?_); refine goesL_ (some 15) rfl rfl Try.func63 (by kernel_rfl) rfl #[.int .i64 a0, .int .i64 a1] rfl (by (try simp only [List.map_toArray, List.map_cons, List.map_nil]); first | done | rfl | (simp only [List.length_drop, List.length_take]; rfl)) ?_; (with_reducible refine (qfix_both.calls a0 a1 t143 t144 false _ A3.out).mono ?_); rintro e w32 ⟨rfl, hb⟩; refine ⟨_, rfl, ?_⟩; have n0_ := Aside0.mk (below_step (by repeat (first | (with_reducible first | exact HB.out | apply below_alloc | apply pw_below_drewN | apply below_drew1) | exact HB.out)) hb); clear HB; have HB := n0_; clear n0_; (try clear hb); (try clear hb2); (try clear hk); (try clear hi)) | ((with_reducible refine gate_callee (f := 65) rfl ?_); refine goesL_ (some 21) rfl rfl Try.func65 (by kernel_rfl) rfl #[.int .i64 t143] rfl (by (try simp only [List.map_toArray, List.map_cons, List.map_nil]); first | done | rfl | (simp only [List.length_drop, List.length_take]; rfl)) ?_; (with_reducible refine (qfix_size.calls t143 t146 _ A4.out).mono ?_); rintro e w' ⟨rfl, ⟨nd, rfl⟩⟩; refine ⟨_, rfl, ?_⟩) | ((with_reducible refine gate_callee (f := 65) rfl ?_); refine goesL_ (some 23) rfl rfl Try.func65 (by kernel_rfl) rfl #[.int .i64 t144] rfl (by (try simp only [List.map_toArray, List.map_cons, List.map_nil]); first | done | rfl | (simp only [List.length_drop, List.length_take]; rfl)) ?_; (with_reducible refine (qfix_size.calls t144 t147 _ A5.out).mono ?_); rintro e w' ⟨rfl, ⟨nd, rfl⟩⟩; refine ⟨_, rfl, ?_⟩) | ((with_reducible refine gate_callee (f := 64) rfl ?_); refine goesL_ (some 24) rfl rfl Try.func64 (by kernel_rfl) rfl #[.int .u64 t146, .int .u64 t147] rfl (by (try simp only [List.map_toArray, List.map_cons, List.map_nil]); first | done | rfl | (simp only [List.length_drop, List.length_take]; rfl)) ?_; (with_reducible refine (bits_Mul64.calls t146 t147 t148 t149 _ A6.out).mono ?_); rintro e w' ⟨rfl, ⟨nd, rfl⟩⟩; refine ⟨_, rfl, ?_⟩) | ((with_reducible refine gate_callee (f := 66) rfl ?_); refine goesL_ (some 57) rfl rfl Try.func66 (by kernel_rfl) rfl #[.int .u64 (t148 / 16777216), .int .u64 (Go.bits .or .u64 (t149 / 16777216) (IntKind.u64.wrap (t148 * 1099511627776))), .bool ((decide (t143 < 0)) != (decide (t144 < 0)))] rfl (by (try simp only [List.map_toArray, List.map_cons, List.map_nil]); first | done | rfl | (simp only [List.length_drop, List.length_take]; rfl)) ?_; (with_reducible refine (qfix_signed.calls (t148 / 16777216) (Go.bits .or .u64 (t149 / 16777216) (IntKind.u64.wrap (t148 * 1099511627776))) ((decide (t143 < 0)) != (decide (t144 < 0))) t156 t157 _ A28.out).mono ?_); rintro e w33 ⟨rfl, hb⟩; refine ⟨_, rfl, ?_⟩; have n0_ := Aside0.mk (below_step (by repeat (first | (with_reducible first | exact HB.out | apply below_alloc | apply pw_below_drewN | apply below_drew1) | exact HB.out)) hb); clear HB; have HB := n0_; clear n0_; (try clear hb); (try clear hb2); (try clear hk); (try clear hi)))
        go_ret2
        exact ⟨by first | rfl | (simp [errW_none, errW_some] <;> rfl) | (simp [*, errW_none, errW_some] <;> rfl), by repeat (first | (with_reducible first | exact HB.out | apply below_alloc | apply pw_below_drewN | apply below_drew1) | exact HB.out)⟩

-- NOT PRINTED: function 72 (mat_each)

-- NOT PRINTED: function 38 (mat_Even)

-- NOT PRINTED: function 15 (kalman_Good)

-- NOT PRINTED: function 47 (mat_Add)

/-! ### bits_Len64: off the shelf -/
/-! ### bits_LeadingZeros64: off the shelf -/
def bits_LeadingZeros64.f (a0 : Int) : Option (Int) := if 0 ≤ a0 ∧ a0 < 18446744073709551616 then some (64 - (Lib.bitLen a0.toNat : Int)) else none
theorem bits_LeadingZeros64.calls (a0 : Int) (r : Int) (w : World) (h : bits_LeadingZeros64.f a0 = some r) :
    Calls Try.prog 93 #[.int .u64 a0] w fun e w' => e = .returned (.int .i64 r) ∧ Drawn0 w w' := by
  unfold bits_LeadingZeros64.f at h
  by_cases hb : 0 ≤ a0 ∧ a0 < 18446744073709551616
  · rw [if_pos hb] at h
    simp only [Option.some.injEq] at h
    subst h
    refine (Try.bits_LeadingZeros64 a0 w hb.1 (by omega)).mono ?_
    rintro e w' ⟨rfl, rfl⟩
    exact ⟨rfl, Drawn0.refl _⟩
  · rw [if_neg hb] at h
    cases h

end Go.Proofs.Ytninmcmajbfccaa.PQ
