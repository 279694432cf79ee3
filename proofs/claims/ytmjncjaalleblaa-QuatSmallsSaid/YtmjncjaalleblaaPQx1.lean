-- Laid by a program of this session's own (wip/print-patch.py over the kit's print), out of the translation; Lean checks it.
import Derived.Test.YtmjncjaalleblaaPQx0
namespace Go.Proofs.Ytmjncjaalleblaa.PQ
open Go.RowKit Go.Proofs.YtmjncjaalleblaaW.PrintWords Go.Proofs.YtmjncjaalleblaaW.PrintLast Go.Proofs.YtmjncjaalleblaaW.PrintMore
attribute [local go_sem] max2_int min2_int max_two min_two max_three min_three max_four min_four   -- for this text's walks alone
set_option linter.unusedVariables false
set_option linter.unusedSimpArgs false

-- NOT PRINTED: function 27 (quat_terms)

-- NOT PRINTED: function 24 (quat_flag_one)

/-! ### qfix_Clamp: function 45 -/
def qfix_Clamp.f (a0 : Int) : Option (Int × Bool) := some (mn (mx a0 (-70368744177664)) 70368744177663, ((mn (mx a0 (-70368744177664)) 70368744177663) != a0))
set_option maxHeartbeats 8000000 in
set_option maxRecDepth 100000 in
theorem qfix_Clamp.calls (a0 : Int) (r1 : Int) (r2 : Bool) (w : World) (h : qfix_Clamp.f a0 = some (r1, r2)) :
    Calls Try.prog 45 #[.int .i64 a0] w fun e w' => e = .returned (.tuple #[.int .i64 r1, .bool r2]) ∧ Below w.heap.size w w' := by
  have HB := Aside0.mk (Below.refl w.heap.size w)
  have H : (some (mn (mx a0 (-70368744177664)) 70368744177663, ((mn (mx a0 (-70368744177664)) 70368744177663) != a0))) = some (r1, r2) := h
  clear h
  obtain ⟨ji2, hji2⟩ : ∃ j_ : Int, (mx a0 (-70368744177664)) = j_ := ⟨_, rfl⟩
  replace H : (some (mn (ji2) 70368744177663, ((mn (ji2) 70368744177663) != a0))) = some (r1, r2) := by first | (rw [hji2] at H; exact H) | (simp only [hji2] at H ⊢; exact H)
  have hji2_ : (if a0 < (-70368744177664) then (-70368744177664) else a0) = ji2 := hji2
  obtain ⟨ji3, hji3⟩ : ∃ j_ : Int, (mn (ji2) 70368744177663) = j_ := ⟨_, rfl⟩
  replace H : (some (ji3, ((ji3) != a0))) = some (r1, r2) := by first | (rw [hji3] at H; exact H) | (simp only [hji3] at H ⊢; exact H)
  have hji3_ : (if 70368744177663 < (ji2) then 70368744177663 else (ji2)) = ji3 := hji3
  simp only [Option.some.injEq, Prod.mk.injEq] at H
  obtain ⟨rfl, rfl⟩ := H
  go_enter Try.func45, Try.ntmps45
  go_wp2
  go_ret2
  exact ⟨by first | rfl | (simp [errW_none, errW_some] <;> rfl) | (simp only [← hji2, ← hji3]; first | rfl | (simp [errW_none, errW_some] <;> rfl)) | (simp [*, errW_none, errW_some] <;> rfl), by repeat (first | (with_reducible first | exact HB.out | apply below_alloc | apply pw_below_drewN | apply below_drew1) | exact HB.out)⟩

/-! ### qfix_both: function 37 -/
def qfix_both.f (a0 : Int) (a1 : Int) : Option (Int × Int × Bool) := (qfix_Clamp.f a0).bind fun bt101 => ((qfix_Clamp.f a1).bind fun bt103 => (if bt101.2 = true then (some (bt101.1, bt103.1, true)) else (some (bt101.1, bt103.1, bt103.2))))
set_option maxHeartbeats 8000000 in
set_option maxRecDepth 100000 in
theorem qfix_both.calls (a0 : Int) (a1 : Int) (r1 : Int) (r2 : Int) (r3 : Bool) (w : World) (h : qfix_both.f a0 a1 = some (r1, r2, r3)) :
    Calls Try.prog 37 #[.int .i64 a0, .int .i64 a1] w fun e w' => e = .returned (.tuple #[.int .i64 r1, .int .i64 r2, .bool r3]) ∧ Below w.heap.size w w' := by
  have HB := Aside0.mk (Below.refl w.heap.size w)
  have H : ((qfix_Clamp.f a0).bind fun bt101 => ((qfix_Clamp.f a1).bind fun bt103 => (if bt101.2 = true then (some (bt101.1, bt103.1, true)) else (some (bt101.1, bt103.1, bt103.2))))) = some (r1, r2, r3) := h
  clear h
  replace H := Option.bind_eq_some_iff.mp H
  obtain ⟨⟨t101, t102⟩, A30, H⟩ := H
  replace H : ((qfix_Clamp.f a1).bind fun bt103 => (if t102 = true then (some (t101, bt103.1, true)) else (some (t101, bt103.1, bt103.2)))) = some (r1, r2, r3) := H
  have A3 := Aside0.mk A30
  clear A30
  replace H := Option.bind_eq_some_iff.mp H
  obtain ⟨⟨t103, t104⟩, A40, H⟩ := H
  replace H : (if t102 = true then (some (t101, t103, true)) else (some (t101, t103, t104))) = some (r1, r2, r3) := H
  have A4 := Aside0.mk A40
  clear A40
  by_cases c5 : t102 = true
  · subst c5
    have H1 : (some (t101, t103, true)) = some (r1, r2, r3) := by rw [if_pos rfl] at H; exact H
    clear H
    have H := H1
    clear H1
    simp only [Option.some.injEq, Prod.mk.injEq] at H
    obtain ⟨rfl, rfl, rfl⟩ := H
    go_enter Try.func37, Try.ntmps37
    go_wp2_with (first | ((with_reducible refine gate_callee (f := 45) rfl ?_); refine goesL_ (some 11) rfl rfl Try.func45 (by kernel_rfl) rfl #[.int .i64 a0] rfl (by (try simp only [List.map_toArray, List.map_cons, List.map_nil]); first | done | rfl | (simp only [List.length_drop, List.length_take]; rfl)) ?_; (with_reducible refine (qfix_Clamp.calls a0 t101 true _ A3.out).mono ?_); rintro e w6 ⟨rfl, hb⟩; refine ⟨_, rfl, ?_⟩; have n0_ := Aside0.mk (below_step (by repeat (first | (with_reducible first | exact HB.out | apply below_alloc | apply pw_below_drewN | apply below_drew1) | exact HB.out)) hb); clear HB; have HB := n0_; clear n0_; (try clear hb); (try clear hb2); (try clear hk); (try clear hi)) | ((with_reducible refine gate_callee (f := 45) rfl ?_); refine goesL_ (some 16) rfl rfl Try.func45 (by kernel_rfl) rfl #[.int .i64 a1] rfl (by (try simp only [List.map_toArray, List.map_cons, List.map_nil]); first | done | rfl | (simp only [List.length_drop, List.length_take]; rfl)) ?_; (with_reducible refine (qfix_Clamp.calls a1 t103 t104 _ A4.out).mono ?_); rintro e w7 ⟨rfl, hb⟩; refine ⟨_, rfl, ?_⟩; have n0_ := Aside0.mk (below_step (by repeat (first | (with_reducible first | exact HB.out | apply below_alloc | apply pw_below_drewN | apply below_drew1) | exact HB.out)) hb); clear HB; have HB := n0_; clear n0_; (try clear hb); (try clear hb2); (try clear hk); (try clear hi)))
    go_ret3
    exact ⟨by first | rfl | (simp [errW_none, errW_some] <;> rfl) | (simp [*, errW_none, errW_some] <;> rfl), by repeat (first | (with_reducible first | exact HB.out | apply below_alloc | apply pw_below_drewN | apply below_drew1) | exact HB.out)⟩
  · replace c5 := Bool.eq_false_iff.mpr c5
    subst c5
    have H1 : (some (t101, t103, t104)) = some (r1, r2, r3) := by rw [if_neg (show ¬ (false = true) by decide)] at H; exact H
    clear H
    have H := H1
    clear H1
    simp only [Option.some.injEq, Prod.mk.injEq] at H
    obtain ⟨rfl, rfl, rfl⟩ := H
    go_enter Try.func37, Try.ntmps37
    go_wp2_with (first | ((with_reducible refine gate_callee (f := 45) rfl ?_); refine goesL_ (some 11) rfl rfl Try.func45 (by kernel_rfl) rfl #[.int .i64 a0] rfl (by (try simp only [List.map_toArray, List.map_cons, List.map_nil]); first | done | rfl | (simp only [List.length_drop, List.length_take]; rfl)) ?_; (with_reducible refine (qfix_Clamp.calls a0 t101 false _ A3.out).mono ?_); rintro e w8 ⟨rfl, hb⟩; refine ⟨_, rfl, ?_⟩; have n0_ := Aside0.mk (below_step (by repeat (first | (with_reducible first | exact HB.out | apply below_alloc | apply pw_below_drewN | apply below_drew1) | exact HB.out)) hb); clear HB; have HB := n0_; clear n0_; (try clear hb); (try clear hb2); (try clear hk); (try clear hi)) | ((with_reducible refine gate_callee (f := 45) rfl ?_); refine goesL_ (some 16) rfl rfl Try.func45 (by kernel_rfl) rfl #[.int .i64 a1] rfl (by (try simp only [List.map_toArray, List.map_cons, List.map_nil]); first | done | rfl | (simp only [List.length_drop, List.length_take]; rfl)) ?_; (with_reducible refine (qfix_Clamp.calls a1 t103 t104 _ A4.out).mono ?_); rintro e w9 ⟨rfl, hb⟩; refine ⟨_, rfl, ?_⟩; have n0_ := Aside0.mk (below_step (by repeat (first | (with_reducible first | exact HB.out | apply below_alloc | apply pw_below_drewN | apply below_drew1) | exact HB.out)) hb); clear HB; have HB := n0_; clear n0_; (try clear hb); (try clear hb2); (try clear hk); (try clear hi)))
    go_ret3
    exact ⟨by first | rfl | (simp [errW_none, errW_some] <;> rfl) | (simp [*, errW_none, errW_some] <;> rfl), by repeat (first | (with_reducible first | exact HB.out | apply below_alloc | apply pw_below_drewN | apply below_drew1) | exact HB.out)⟩

/-! ### qfix_Add: function 42 -/
def qfix_Add.f (a0 : Int) (a1 : Int) : Option (Int × Bool) := (qfix_both.f a0 a1).bind fun bt105 => ((qfix_Clamp.f (wrap64 (bt105.1 + bt105.2.1))).bind fun bt108 => (if bt105.2.2 = true then (some (bt108.1, true)) else (some (bt108.1, bt108.2))))
set_option maxHeartbeats 8000000 in
set_option maxRecDepth 100000 in
theorem qfix_Add.calls (a0 : Int) (a1 : Int) (r1 : Int) (r2 : Bool) (w : World) (h : qfix_Add.f a0 a1 = some (r1, r2)) :
    Calls Try.prog 42 #[.int .i64 a0, .int .i64 a1] w fun e w' => e = .returned (.tuple #[.int .i64 r1, .bool r2]) ∧ Below w.heap.size w w' := by
  have HB := Aside0.mk (Below.refl w.heap.size w)
  have H : ((qfix_both.f a0 a1).bind fun bt105 => ((qfix_Clamp.f (wrap64 (bt105.1 + bt105.2.1))).bind fun bt108 => (if bt105.2.2 = true then (some (bt108.1, true)) else (some (bt108.1, bt108.2))))) = some (r1, r2) := h
  clear h
  replace H := Option.bind_eq_some_iff.mp H
  obtain ⟨⟨t105, t106, t107⟩, A30, H⟩ := H
  replace H : ((qfix_Clamp.f (wrap64 (t105 + t106))).bind fun bt108 => (if t107 = true then (some (bt108.1, true)) else (some (bt108.1, bt108.2)))) = some (r1, r2) := H
  have A3 := Aside0.mk A30
  clear A30
  replace H := Option.bind_eq_some_iff.mp H
  obtain ⟨⟨t108, t109⟩, A40, H⟩ := H
  replace H : (if t107 = true then (some (t108, true)) else (some (t108, t109))) = some (r1, r2) := H
  have A4 := Aside0.mk A40
  clear A40
  by_cases c5 : t107 = true
  · subst c5
    have H1 : (some (t108, true)) = some (r1, r2) := by rw [if_pos rfl] at H; exact H
    clear H
    have H := H1
    clear H1
    simp only [Option.some.injEq, Prod.mk.injEq] at H
    obtain ⟨rfl, rfl⟩ := H
    go_enter Try.func42, Try.ntmps42
    go_wp2_with (first | ((with_reducible refine gate_callee (f := 37) rfl ?_); refine goesL_ (some 12) rfl rfl Try.func37 (by kernel_rfl) rfl #[.int .i64 a0, .int .i64 a1] rfl (by (try simp only [List.map_toArray, List.map_cons, List.map_nil]); first | done | rfl | (simp only [List.length_drop, List.length_take]; rfl)) ?_; (with_reducible refine (qfix_both.calls a0 a1 t105 t106 true _ A3.out).mono ?_); rintro e w6 ⟨rfl, hb⟩; refine ⟨_, rfl, ?_⟩; have n0_ := Aside0.mk (below_step (by repeat (first | (with_reducible first | exact HB.out | apply below_alloc | apply pw_below_drewN | apply below_drew1) | exact HB.out)) hb); clear HB; have HB := n0_; clear n0_; (try clear hb); (try clear hb2); (try clear hk); (try clear hi)) | ((with_reducible refine gate_callee (f := 45) rfl ?_); refine goesL_ (some 20) rfl rfl Try.func45 (by kernel_rfl) rfl #[.int .i64 (wrap64 (t105 + t106))] rfl (by (try simp only [List.map_toArray, List.map_cons, List.map_nil]); first | done | rfl | (simp only [List.length_drop, List.length_take]; rfl)) ?_; (with_reducible refine (qfix_Clamp.calls (wrap64 (t105 + t106)) t108 t109 _ A4.out).mono ?_); rintro e w7 ⟨rfl, hb⟩; refine ⟨_, rfl, ?_⟩; have n0_ := Aside0.mk (below_step (by repeat (first | (with_reducible first | exact HB.out | apply below_alloc | apply pw_below_drewN | apply below_drew1) | exact HB.out)) hb); clear HB; have HB := n0_; clear n0_; (try clear hb); (try clear hb2); (try clear hk); (try clear hi)))
    go_ret2
    exact ⟨by first | rfl | (simp [errW_none, errW_some] <;> rfl) | (simp [*, errW_none, errW_some] <;> rfl), by repeat (first | (with_reducible first | exact HB.out | apply below_alloc | apply pw_below_drewN | apply below_drew1) | exact HB.out)⟩
  · replace c5 := Bool.eq_false_iff.mpr c5
    subst c5
    have H1 : (some (t108, t109)) = some (r1, r2) := by rw [if_neg (show ¬ (false = true) by decide)] at H; exact H
    clear H
    have H := H1
    clear H1
    simp only [Option.some.injEq, Prod.mk.injEq] at H
    obtain ⟨rfl, rfl⟩ := H
    go_enter Try.func42, Try.ntmps42
    go_wp2_with (first | ((with_reducible refine gate_callee (f := 37) rfl ?_); refine goesL_ (some 12) rfl rfl Try.func37 (by kernel_rfl) rfl #[.int .i64 a0, .int .i64 a1] rfl (by (try simp only [List.map_toArray, List.map_cons, List.map_nil]); first | done | rfl | (simp only [List.length_drop, List.length_take]; rfl)) ?_; (with_reducible refine (qfix_both.calls a0 a1 t105 t106 false _ A3.out).mono ?_); rintro e w8 ⟨rfl, hb⟩; refine ⟨_, rfl, ?_⟩; have n0_ := Aside0.mk (below_step (by repeat (first | (with_reducible first | exact HB.out | apply below_alloc | apply pw_below_drewN | apply below_drew1) | exact HB.out)) hb); clear HB; have HB := n0_; clear n0_; (try clear hb); (try clear hb2); (try clear hk); (try clear hi)) | ((with_reducible refine gate_callee (f := 45) rfl ?_); refine goesL_ (some 20) rfl rfl Try.func45 (by kernel_rfl) rfl #[.int .i64 (wrap64 (t105 + t106))] rfl (by (try simp only [List.map_toArray, List.map_cons, List.map_nil]); first | done | rfl | (simp only [List.length_drop, List.length_take]; rfl)) ?_; (with_reducible refine (qfix_Clamp.calls (wrap64 (t105 + t106)) t108 t109 _ A4.out).mono ?_); rintro e w9 ⟨rfl, hb⟩; refine ⟨_, rfl, ?_⟩; have n0_ := Aside0.mk (below_step (by repeat (first | (with_reducible first | exact HB.out | apply below_alloc | apply pw_below_drewN | apply below_drew1) | exact HB.out)) hb); clear HB; have HB := n0_; clear n0_; (try clear hb); (try clear hb2); (try clear hk); (try clear hi)))
    go_ret2
    exact ⟨by first | rfl | (simp [errW_none, errW_some] <;> rfl) | (simp [*, errW_none, errW_some] <;> rfl), by repeat (first | (with_reducible first | exact HB.out | apply below_alloc | apply pw_below_drewN | apply below_drew1) | exact HB.out)⟩

-- NOT PRINTED: function 28 (quat_flag_sum)

-- NOT PRINTED: function 11 (quat_Mul)

/-! ### qfix_Sub: function 41 -/
def qfix_Sub.f (a0 : Int) (a1 : Int) : Option (Int × Bool) := (qfix_both.f a0 a1).bind fun bt110 => ((qfix_Clamp.f (wrap64 (bt110.1 - bt110.2.1))).bind fun bt113 => (if bt110.2.2 = true then (some (bt113.1, true)) else (some (bt113.1, bt113.2))))
set_option maxHeartbeats 8000000 in
set_option maxRecDepth 100000 in
theorem qfix_Sub.calls (a0 : Int) (a1 : Int) (r1 : Int) (r2 : Bool) (w : World) (h : qfix_Sub.f a0 a1 = some (r1, r2)) :
    Calls Try.prog 41 #[.int .i64 a0, .int .i64 a1] w fun e w' => e = .returned (.tuple #[.int .i64 r1, .bool r2]) ∧ Below w.heap.size w w' := by
  have HB := Aside0.mk (Below.refl w.heap.size w)
  have H : ((qfix_both.f a0 a1).bind fun bt110 => ((qfix_Clamp.f (wrap64 (bt110.1 - bt110.2.1))).bind fun bt113 => (if bt110.2.2 = true then (some (bt113.1, true)) else (some (bt113.1, bt113.2))))) = some (r1, r2) := h
  clear h
  replace H := Option.bind_eq_some_iff.mp H
  obtain ⟨⟨t110, t111, t112⟩, A30, H⟩ := H
  replace H : ((qfix_Clamp.f (wrap64 (t110 - t111))).bind fun bt113 => (if t112 = true then (some (bt113.1, true)) else (some (bt113.1, bt113.2)))) = some (r1, r2) := H
  have A3 := Aside0.mk A30
  clear A30
  replace H := Option.bind_eq_some_iff.mp H
  obtain ⟨⟨t113, t114⟩, A40, H⟩ := H
  replace H : (if t112 = true then (some (t113, true)) else (some (t113, t114))) = some (r1, r2) := H
  have A4 := Aside0.mk A40
  clear A40
  by_cases c5 : t112 = true
  · subst c5
    have H1 : (some (t113, true)) = some (r1, r2) := by rw [if_pos rfl] at H; exact H
    clear H
    have H := H1
    clear H1
    simp only [Option.some.injEq, Prod.mk.injEq] at H
    obtain ⟨rfl, rfl⟩ := H
    go_enter Try.func41, Try.ntmps41
    go_wp2_with (first | ((with_reducible refine gate_callee (f := 37) rfl ?_); refine goesL_ (some 12) rfl rfl Try.func37 (by kernel_rfl) rfl #[.int .i64 a0, .int .i64 a1] rfl (by (try simp only [List.map_toArray, List.map_cons, List.map_nil]); first | done | rfl | (simp only [List.length_drop, List.length_take]; rfl)) ?_; (with_reducible refine (qfix_both.calls a0 a1 t110 t111 true _ A3.out).mono ?_); rintro e w6 ⟨rfl, hb⟩; refine ⟨_, rfl, ?_⟩; have n0_ := Aside0.mk (below_step (by repeat (first | (with_reducible first | exact HB.out | apply below_alloc | apply pw_below_drewN | apply below_drew1) | exact HB.out)) hb); clear HB; have HB := n0_; clear n0_; (try clear hb); (try clear hb2); (try clear hk); (try clear hi)) | ((with_reducible refine gate_callee (f := 45) rfl ?_); refine goesL_ (some 20) rfl rfl Try.func45 (by kernel_rfl) rfl #[.int .i64 (wrap64 (t110 - t111))] rfl (by (try simp only [List.map_toArray, List.map_cons, List.map_nil]); first | done | rfl | (simp only [List.length_drop, List.length_take]; rfl)) ?_; (with_reducible refine (qfix_Clamp.calls (wrap64 (t110 - t111)) t113 t114 _ A4.out).mono ?_); rintro e w7 ⟨rfl, hb⟩; refine ⟨_, rfl, ?_⟩; have n0_ := Aside0.mk (below_step (by repeat (first | (with_reducible first | exact HB.out | apply below_alloc | apply pw_below_drewN | apply below_drew1) | exact HB.out)) hb); clear HB; have HB := n0_; clear n0_; (try clear hb); (try clear hb2); (try clear hk); (try clear hi)))
    go_ret2
    exact ⟨by first | rfl | (simp [errW_none, errW_some] <;> rfl) | (simp [*, errW_none, errW_some] <;> rfl), by repeat (first | (with_reducible first | exact HB.out | apply below_alloc | apply pw_below_drewN | apply below_drew1) | exact HB.out)⟩
  · replace c5 := Bool.eq_false_iff.mpr c5
    subst c5
    have H1 : (some (t113, t114)) = some (r1, r2) := by rw [if_neg (show ¬ (false = true) by decide)] at H; exact H
    clear H
    have H := H1
    clear H1
    simp only [Option.some.injEq, Prod.mk.injEq] at H
    obtain ⟨rfl, rfl⟩ := H
    go_enter Try.func41, Try.ntmps41
    go_wp2_with (first | ((with_reducible refine gate_callee (f := 37) rfl ?_); refine goesL_ (some 12) rfl rfl Try.func37 (by kernel_rfl) rfl #[.int .i64 a0, .int .i64 a1] rfl (by (try simp only [List.map_toArray, List.map_cons, List.map_nil]); first | done | rfl | (simp only [List.length_drop, List.length_take]; rfl)) ?_; (with_reducible refine (qfix_both.calls a0 a1 t110 t111 false _ A3.out).mono ?_); rintro e w8 ⟨rfl, hb⟩; refine ⟨_, rfl, ?_⟩; have n0_ := Aside0.mk (below_step (by repeat (first | (with_reducible first | exact HB.out | apply below_alloc | apply pw_below_drewN | apply below_drew1) | exact HB.out)) hb); clear HB; have HB := n0_; clear n0_; (try clear hb); (try clear hb2); (try clear hk); (try clear hi)) | ((with_reducible refine gate_callee (f := 45) rfl ?_); refine goesL_ (some 20) rfl rfl Try.func45 (by kernel_rfl) rfl #[.int .i64 (wrap64 (t110 - t111))] rfl (by (try simp only [List.map_toArray, List.map_cons, List.map_nil]); first | done | rfl | (simp only [List.length_drop, List.length_take]; rfl)) ?_; (with_reducible refine (qfix_Clamp.calls (wrap64 (t110 - t111)) t113 t114 _ A4.out).mono ?_); rintro e w9 ⟨rfl, hb⟩; refine ⟨_, rfl, ?_⟩; have n0_ := Aside0.mk (below_step (by repeat (first | (with_reducible first | exact HB.out | apply below_alloc | apply pw_below_drewN | apply below_drew1) | exact HB.out)) hb); clear HB; have HB := n0_; clear n0_; (try clear hb); (try clear hb2); (try clear hk); (try clear hi)))
    go_ret2
    exact ⟨by first | rfl | (simp [errW_none, errW_some] <;> rfl) | (simp [*, errW_none, errW_some] <;> rfl), by repeat (first | (with_reducible first | exact HB.out | apply below_alloc | apply pw_below_drewN | apply below_drew1) | exact HB.out)⟩

-- NOT PRINTED: function 26 (quat_flag_less)

-- NOT PRINTED: function 13 (quat_Conj)

-- NOT PRINTED: function 12 (quat_Turn)

-- NOT PRINTED: function 20 (quat_Right)

-- NOT PRINTED: function 9 (alidadelaw04_shown)

/-! ### alidaderef01_In: function 22 -/
def alidaderef01_In.f (a0 : Int) : Option (Bool) := if a0 ≥ (-70368744177664) then (some (decide (a0 ≤ 70368744177663))) else (some false)
set_option maxHeartbeats 8000000 in
set_option maxRecDepth 100000 in
theorem alidaderef01_In.calls (a0 : Int) (r : Bool) (w : World) (h : alidaderef01_In.f a0 = some r) :
    Calls Try.prog 22 #[.int .i64 a0] w fun e w' => e = .returned (.bool r) ∧ Drawn0 w w' := by
  have H : (if a0 ≥ (-70368744177664) then (some (decide (a0 ≤ 70368744177663))) else (some false)) = some r := h
  clear h
  by_cases c2 : a0 ≥ (-70368744177664)
  · rw [if_pos c2] at H
    have c2b0 : decide ((-70368744177664) ≤ a0) = true := decide_eq_true c2
    clear c2
    obtain rfl := Option.some.inj H
    go_enter Try.func22, Try.ntmps22
    go_wp2
    go_ret
    exact ⟨by first | rfl | (simp; done) | (simp [*]; done), by repeat (first | exact Drawn0.refl _ | apply Drawn0.step)⟩
  · rw [if_neg c2] at H
    have c2b0 : decide ((-70368744177664) ≤ a0) = false := decide_eq_false c2
    clear c2
    obtain rfl := Option.some.inj H
    go_enter Try.func22, Try.ntmps22
    go_wp2
    go_ret
    exact ⟨by first | rfl | (simp; done) | (simp [*]; done), by repeat (first | exact Drawn0.refl _ | apply Drawn0.step)⟩

-- NOT PRINTED: function 10 (alidaderef04_Right)

-- NOT PRINTED: function 3 (alidadelaw04_QuatRounds)

-- NOT PRINTED: function 14 (quat_Norm)

-- NOT PRINTED: function 4 (alidadelaw04_QuatWholes)

-- NOT PRINTED: function 5 (alidadelaw04_QuatConjs)

/-! ### bits_Mul64: off the shelf -/
def bits_Mul64.f (a0 : Int) (a1 : Int) : Option (Int × Int) := if 0 ≤ a0 ∧ a0 < 18446744073709551616 ∧ 0 ≤ a1 ∧ a1 < 18446744073709551616 then some (a0 * a1 / 18446744073709551616, a0 * a1 % 18446744073709551616) else none
theorem bits_Mul64.calls (a0 : Int) (a1 : Int) (r1 : Int) (r2 : Int) (w : World) (h : bits_Mul64.f a0 a1 = some (r1, r2)) :
    Calls Try.prog 38 #[.int .u64 a0, .int .u64 a1] w fun e w' => e = .returned (.tuple #[.int .u64 r1, .int .u64 r2]) ∧ Drawn0 w w' := by
  unfold bits_Mul64.f at h
  by_cases hb : 0 ≤ a0 ∧ a0 < 18446744073709551616 ∧ 0 ≤ a1 ∧ a1 < 18446744073709551616
  · rw [if_pos hb] at h
    simp only [Option.some.injEq, Prod.mk.injEq] at h
    obtain ⟨rfl, rfl⟩ := h
    obtain ⟨x, rfl⟩ := Int.eq_ofNat_of_zero_le hb.1
    obtain ⟨y, rfl⟩ := Int.eq_ofNat_of_zero_le hb.2.2.1
    refine (Try.bits_Mul64 x y (by omega) (by omega) w).mono ?_
    rintro e w' ⟨rfl, rfl⟩
    exact ⟨by simp, Drawn0.refl _⟩
  · rw [if_neg hb] at h
    cases h

/-! ### qfix_Sqrt: function 31 -/
def qfix_Sqrt.l0 : Nat → Bool → Int → Int → Int → Int → Option (Int × Bool)
  | 0, _, _, _, _, _ => none
  | k + 1, x4, x5, x6, x7, x8 => if x8 > 0 then ((bits_Mul64.f (Go.bits .or .u64 x7 x8) (Go.bits .or .u64 x7 x8)).bind fun bt117 => (if bt117.1 < x5 then (qfix_Sqrt.l0 k x4 x5 x6 (Go.bits .or .u64 x7 x8) (x8 / 2)) else (if bt117.1 = x5 then (if bt117.2 ≤ x6 then (qfix_Sqrt.l0 k x4 x5 x6 (Go.bits .or .u64 x7 x8) (x8 / 2)) else (qfix_Sqrt.l0 k x4 x5 x6 x7 (x8 / 2))) else (qfix_Sqrt.l0 k x4 x5 x6 x7 (x8 / 2))))) else (some (wrap64 (x7), x4))
def qfix_Sqrt.f (k : Nat) (a0 : Int) : Option (Int × Bool) := (qfix_Clamp.f a0).bind fun bt115 => (if bt115.1 < 0 then (some (0, true)) else (qfix_Sqrt.l0 k bt115.2 ((IntKind.u64.wrap (bt115.1)) / 1099511627776) (IntKind.u64.wrap ((IntKind.u64.wrap (bt115.1)) * 16777216)) 0 34359738368))
theorem qfix_Sqrt.mono_l : ∀ k, (∀ y0 y1 y2 y3 y4, LeO (qfix_Sqrt.l0 k y0 y1 y2 y3 y4) (qfix_Sqrt.l0 (k + 1) y0 y1 y2 y3 y4))
  | 0 => fun _ _ _ _ _ r h => by simp [qfix_Sqrt.l0] at h
  | k + 1 => by
    have ih0 := qfix_Sqrt.mono_l k
    · intro y0 y1 y2 y3 y4
      unfold qfix_Sqrt.l0
      repeat' first
      | (with_reducible exact ih0 _ _ _ _ _)
      | (with_reducible exact LeO.refl _)
      | (with_reducible exact LeO.none _)
      | (with_reducible refine LeO.ite ?_ ?_)
      | (with_reducible refine LeO.bind ?_ (fun _ => ?_))
      | exact ih0 _ _ _ _ _
      | exact LeO.none _
      | refine LeO.ite ?_ ?_
      | refine LeO.bind ?_ (fun _ => ?_)
theorem qfix_Sqrt.mono : ∀ a0 k, LeO (qfix_Sqrt.f k a0) (qfix_Sqrt.f (k + 1) a0) := by
  intro a0 k
  have ih0 := qfix_Sqrt.mono_l k
  unfold qfix_Sqrt.f
  repeat' first
      | (with_reducible exact ih0 _ _ _ _ _)
      | (with_reducible exact LeO.refl _)
      | (with_reducible exact LeO.none _)
      | (with_reducible refine LeO.ite ?_ ?_)
      | (with_reducible refine LeO.bind ?_ (fun _ => ?_))
      | exact ih0 _ _ _ _ _
      | exact LeO.none _
      | refine LeO.ite ?_ ?_
      | refine LeO.bind ?_ (fun _ => ?_)
set_option maxHeartbeats 8000000 in
set_option maxRecDepth 100000 in
theorem qfix_Sqrt.calls (k : Nat) (a0 : Int) (r1 : Int) (r2 : Bool) (w : World) (h : qfix_Sqrt.f k a0 = some (r1, r2)) :
    Calls Try.prog 31 #[.int .i64 a0] w fun e w' => e = .returned (.tuple #[.int .i64 r1, .bool r2]) ∧ Below w.heap.size w w' := by
  have HB := Aside0.mk (Below.refl w.heap.size w)
  have H : ((qfix_Clamp.f a0).bind fun bt115 => (if bt115.1 < 0 then (some (0, true)) else (qfix_Sqrt.l0 k bt115.2 ((IntKind.u64.wrap (bt115.1)) / 1099511627776) (IntKind.u64.wrap ((IntKind.u64.wrap (bt115.1)) * 16777216)) 0 34359738368))) = some (r1, r2) := h
  clear h
  replace H := Option.bind_eq_some_iff.mp H
  obtain ⟨⟨t115, t116⟩, A20, H⟩ := H
  replace H : (if t115 < 0 then (some (0, true)) else (qfix_Sqrt.l0 k t116 ((IntKind.u64.wrap (t115)) / 1099511627776) (IntKind.u64.wrap ((IntKind.u64.wrap (t115)) * 16777216)) 0 34359738368)) = some (r1, r2) := H
  have A2 := Aside0.mk A20
  clear A20
  by_cases c3 : t115 < 0
  · rw [if_pos c3] at H
    have c3b0 : decide (t115 < 0) = true := decide_eq_true c3
    clear c3
    simp only [Option.some.injEq, Prod.mk.injEq] at H
    obtain ⟨rfl, rfl⟩ := H
    go_enter Try.func31, Try.ntmps31
    go_wp2_with (first | ((with_reducible refine gate_callee (f := 45) rfl ?_); refine goesL_ (some 13) rfl rfl Try.func45 (by kernel_rfl) rfl #[.int .i64 a0] rfl (by (try simp only [List.map_toArray, List.map_cons, List.map_nil]); first | done | rfl | (simp only [List.length_drop, List.length_take]; rfl)) ?_; (with_reducible refine (qfix_Clamp.calls a0 t115 t116 _ A2.out).mono ?_); rintro e w4 ⟨rfl, hb⟩; refine ⟨_, rfl, ?_⟩; have n0_ := Aside0.mk (below_step (by repeat (first | (with_reducible first | exact HB.out | apply below_alloc | apply pw_below_drewN | apply below_drew1) | exact HB.out)) hb); clear HB; have HB := n0_; clear n0_; (try clear hb); (try clear hb2); (try clear hk); (try clear hi)))
    go_ret2
    exact ⟨by first | rfl | (simp [errW_none, errW_some] <;> rfl) | (simp [*, errW_none, errW_some] <;> rfl), by repeat (first | (with_reducible first | exact HB.out | apply below_alloc | apply pw_below_drewN | apply below_drew1) | exact HB.out)⟩
  · rw [if_neg c3] at H
    have c3b0 : decide (t115 < 0) = false := decide_eq_false c3
    clear c3
    have H' := Aside0.mk H
    clear H
    go_enter Try.func31, Try.ntmps31
    go_wp2_with (first | ((with_reducible refine gate_callee (f := 45) rfl ?_); refine goesL_ (some 13) rfl rfl Try.func45 (by kernel_rfl) rfl #[.int .i64 a0] rfl (by (try simp only [List.map_toArray, List.map_cons, List.map_nil]); first | done | rfl | (simp only [List.length_drop, List.length_take]; rfl)) ?_; (with_reducible refine (qfix_Clamp.calls a0 t115 t116 _ A2.out).mono ?_); rintro e w5 ⟨rfl, hb⟩; refine ⟨_, rfl, ?_⟩; have n0_ := Aside0.mk (below_step (by repeat (first | (with_reducible first | exact HB.out | apply below_alloc | apply pw_below_drewN | apply below_drew1) | exact HB.out)) hb); clear HB; have HB := n0_; clear n0_; (try clear hb); (try clear hb2); (try clear hk); (try clear hi)))
    go_loopg [7, 8] k (fun kq v7 v8 w' => ∃ (x7_1 : Int) (x8_1 : Int), v7 = .int .u64 x7_1 ∧ v8 = .int .u64 x8_1 ∧ Aside0 (qfix_Sqrt.l0 kq t116 ((IntKind.u64.wrap (t115)) / 1099511627776) (IntKind.u64.wrap ((IntKind.u64.wrap (t115)) * 16777216)) x7_1 x8_1 = some (r1, r2)) ∧ Aside0 (kq ≤ k) ∧ Aside0 (Below w.heap.size w w'))
    case atStart => exact ⟨(0), (34359738368), (by first | rfl | (simp; done) | (simp [*]; done)), (by first | rfl | (simp; done) | (simp [*]; done)), H', ⟨Nat.le_refl _⟩, ⟨by repeat (first | (with_reducible first | exact HB.out | apply below_alloc | apply pw_below_drewN | apply below_drew1) | exact HB.out)⟩⟩
    case round =>
      clear H'
      try clear p2
      try clear c3
      try clear c3b0
      try clear c4
      obtain ⟨x7_1, x8_1, rfl, rfl, HA, HK1, HB⟩ := hrel
      cases gk with
      | zero => exact absurd HA.out (by simp [qfix_Sqrt.l0])
      | succ k1 =>
        have H := HA.out
        clear HA
        simp only [qfix_Sqrt.l0] at H
        by_cases c6 : x8_1 > 0
        · rw [if_pos c6] at H
          have c6b0 : decide (0 < x8_1) = true := decide_eq_true c6
          clear c6
          replace H := Option.bind_eq_some_iff.mp H
          obtain ⟨⟨t117, t118⟩, A70, H⟩ := H
          replace H : (if t117 < ((IntKind.u64.wrap (t115)) / 1099511627776) then (qfix_Sqrt.l0 k1 t116 ((IntKind.u64.wrap (t115)) / 1099511627776) (IntKind.u64.wrap ((IntKind.u64.wrap (t115)) * 16777216)) (Go.bits .or .u64 x7_1 x8_1) (x8_1 / 2)) else (if t117 = ((IntKind.u64.wrap (t115)) / 1099511627776) then (if t118 ≤ (IntKind.u64.wrap ((IntKind.u64.wrap (t115)) * 16777216)) then (qfix_Sqrt.l0 k1 t116 ((IntKind.u64.wrap (t115)) / 1099511627776) (IntKind.u64.wrap ((IntKind.u64.wrap (t115)) * 16777216)) (Go.bits .or .u64 x7_1 x8_1) (x8_1 / 2)) else (qfix_Sqrt.l0 k1 t116 ((IntKind.u64.wrap (t115)) / 1099511627776) (IntKind.u64.wrap ((IntKind.u64.wrap (t115)) * 16777216)) x7_1 (x8_1 / 2))) else (qfix_Sqrt.l0 k1 t116 ((IntKind.u64.wrap (t115)) / 1099511627776) (IntKind.u64.wrap ((IntKind.u64.wrap (t115)) * 16777216)) x7_1 (x8_1 / 2)))) = some (r1, r2) := H
          have A7 := Aside0.mk A70
          clear A70
          by_cases c8 : t117 < ((IntKind.u64.wrap (t115)) / 1099511627776)
          · rw [if_pos c8] at H
            have c8b0 : decide (t117 < ((IntKind.u64.wrap (t115)) / 1099511627776)) = true := decide_eq_true c8
            clear c8
            have H' := Aside0.mk H
            clear H
            go_wp2_with (first | ((with_reducible refine gate_callee (f := 38) rfl ?_); refine goesL_ (some 35) rfl rfl Try.func38 (by kernel_rfl) rfl #[.int .u64 (Go.bits .or .u64 x7_1 x8_1), .int .u64 (Go.bits .or .u64 x7_1 x8_1)] rfl (by (try simp only [List.map_toArray, List.map_cons, List.map_nil]); first | done | rfl | (simp only [List.length_drop, List.length_take]; rfl)) ?_; (with_reducible refine (bits_Mul64.calls (Go.bits .or .u64 x7_1 x8_1) (Go.bits .or .u64 x7_1 x8_1) t117 t118 _ A7.out).mono ?_); rintro e w' ⟨rfl, ⟨nd, rfl⟩⟩; refine ⟨_, rfl, ?_⟩))
            go_roundg k1
            case measure => have := HK1.out; omega
            case rel => exact ⟨(Go.bits .or .u64 x7_1 x8_1), (x8_1 / 2), (by first | rfl | (simp; done) | (simp [*]; done)), (by first | rfl | (simp; done) | (simp [*]; done)), H', ⟨by have := HK1.out; omega⟩, ⟨by repeat (first | (with_reducible first | exact HB.out | apply below_alloc | apply pw_below_drewN | apply below_drew1) | exact HB.out)⟩⟩
          · rw [if_neg c8] at H
            have c8b0 : decide (t117 < ((IntKind.u64.wrap (t115)) / 1099511627776)) = false := decide_eq_false c8
            clear c8
            by_cases c9 : t117 = ((IntKind.u64.wrap (t115)) / 1099511627776)
            · rw [if_pos c9] at H
              have c9b0 : (t117 == ((IntKind.u64.wrap (t115)) / 1099511627776)) = true := beq_iff_eq.mpr c9
              have c9b1 : (t117 != ((IntKind.u64.wrap (t115)) / 1099511627776)) = false := bne_eq_false_iff_eq.mpr c9
              clear c9
              by_cases c10 : t118 ≤ (IntKind.u64.wrap ((IntKind.u64.wrap (t115)) * 16777216))
              · rw [if_pos c10] at H
                have c10b0 : decide (t118 ≤ (IntKind.u64.wrap ((IntKind.u64.wrap (t115)) * 16777216))) = true := decide_eq_true c10
                clear c10
                have H' := Aside0.mk H
                clear H
                go_wp2_with (first | ((with_reducible refine gate_callee (f := 38) rfl ?_); refine goesL_ (some 35) rfl rfl Try.func38 (by kernel_rfl) rfl #[.int .u64 (Go.bits .or .u64 x7_1 x8_1), .int .u64 (Go.bits .or .u64 x7_1 x8_1)] rfl (by (try simp only [List.map_toArray, List.map_cons, List.map_nil]); first | done | rfl | (simp only [List.length_drop, List.length_take]; rfl)) ?_; (with_reducible refine (bits_Mul64.calls (Go.bits .or .u64 x7_1 x8_1) (Go.bits .or .u64 x7_1 x8_1) t117 t118 _ A7.out).mono ?_); rintro e w' ⟨rfl, ⟨nd, rfl⟩⟩; refine ⟨_, rfl, ?_⟩))
                go_roundg k1
                case measure => have := HK1.out; omega
                case rel => exact ⟨(Go.bits .or .u64 x7_1 x8_1), (x8_1 / 2), (by first | rfl | (simp; done) | (simp [*]; done)), (by first | rfl | (simp; done) | (simp [*]; done)), H', ⟨by have := HK1.out; omega⟩, ⟨by repeat (first | (with_reducible first | exact HB.out | apply below_alloc | apply pw_below_drewN | apply below_drew1) | exact HB.out)⟩⟩
              · rw [if_neg c10] at H
                have c10b0 : decide (t118 ≤ (IntKind.u64.wrap ((IntKind.u64.wrap (t115)) * 16777216))) = false := decide_eq_false c10
                clear c10
                have H' := Aside0.mk H
                clear H
                go_wp2_with (first | ((with_reducible refine gate_callee (f := 38) rfl ?_); refine goesL_ (some 35) rfl rfl Try.func38 (by kernel_rfl) rfl #[.int .u64 (Go.bits .or .u64 x7_1 x8_1), .int .u64 (Go.bits .or .u64 x7_1 x8_1)] rfl (by (try simp only [List.map_toArray, List.map_cons, List.map_nil]); first | done | rfl | (simp only [List.length_drop, List.length_take]; rfl)) ?_; (with_reducible refine (bits_Mul64.calls (Go.bits .or .u64 x7_1 x8_1) (Go.bits .or .u64 x7_1 x8_1) t117 t118 _ A7.out).mono ?_); rintro e w' ⟨rfl, ⟨nd, rfl⟩⟩; refine ⟨_, rfl, ?_⟩))
                go_roundg k1
                case measure => have := HK1.out; omega
                case rel => exact ⟨(x7_1), (x8_1 / 2), (by first | rfl | (simp; done) | (simp [*]; done)), (by first | rfl | (simp; done) | (simp [*]; done)), H', ⟨by have := HK1.out; omega⟩, ⟨by repeat (first | (with_reducible first | exact HB.out | apply below_alloc | apply pw_below_drewN | apply below_drew1) | exact HB.out)⟩⟩
            · rw [if_neg c9] at H
              have c9b0 : (t117 == ((IntKind.u64.wrap (t115)) / 1099511627776)) = false := beq_eq_false_iff_ne.mpr c9
              have c9b1 : (t117 != ((IntKind.u64.wrap (t115)) / 1099511627776)) = true := bne_iff_ne.mpr c9
              have H' := Aside0.mk H
              clear H
              go_wp2_with (first | ((with_reducible refine gate_callee (f := 38) rfl ?_); refine goesL_ (some 35) rfl rfl Try.func38 (by kernel_rfl) rfl #[.int .u64 (Go.bits .or .u64 x7_1 x8_1), .int .u64 (Go.bits .or .u64 x7_1 x8_1)] rfl (by (try simp only [List.map_toArray, List.map_cons, List.map_nil]); first | done | rfl | (simp only [List.length_drop, List.length_take]; rfl)) ?_; (with_reducible refine (bits_Mul64.calls (Go.bits .or .u64 x7_1 x8_1) (Go.bits .or .u64 x7_1 x8_1) t117 t118 _ A7.out).mono ?_); rintro e w' ⟨rfl, ⟨nd, rfl⟩⟩; refine ⟨_, rfl, ?_⟩))
              go_roundg k1
              case measure => have := HK1.out; omega
              case rel => exact ⟨(x7_1), (x8_1 / 2), (by first | rfl | (simp; done) | (simp [*]; done)), (by first | rfl | (simp; done) | (simp [*]; done)), H', ⟨by have := HK1.out; omega⟩, ⟨by repeat (first | (with_reducible first | exact HB.out | apply below_alloc | apply pw_below_drewN | apply below_drew1) | exact HB.out)⟩⟩
        · rw [if_neg c6] at H
          have c6b0 : decide (0 < x8_1) = false := decide_eq_false c6
          clear c6
          simp only [Option.some.injEq, Prod.mk.injEq] at H
          obtain ⟨rfl, rfl⟩ := H
          go_wp2
          go_ret2
          exact ⟨by first | rfl | (simp [errW_none, errW_some] <;> rfl) | (simp [*, errW_none, errW_some] <;> rfl), by repeat (first | (with_reducible first | exact HB.out | apply below_alloc | apply pw_below_drewN | apply below_drew1) | exact HB.out)⟩

/-! ### qfix_size: function 39 -/
def qfix_size.f (a0 : Int) : Option (Int) := if a0 < 0 then (some (IntKind.u64.wrap (wrap64 (-a0)))) else (some (IntKind.u64.wrap (a0)))
set_option maxHeartbeats 8000000 in
set_option maxRecDepth 100000 in
theorem qfix_size.calls (a0 : Int) (r : Int) (w : World) (h : qfix_size.f a0 = some r) :
    Calls Try.prog 39 #[.int .i64 a0] w fun e w' => e = .returned (.int .u64 r) ∧ Drawn0 w w' := by
  have H : (if a0 < 0 then (some (IntKind.u64.wrap (wrap64 (-a0)))) else (some (IntKind.u64.wrap (a0)))) = some r := h
  clear h
  by_cases c2 : a0 < 0
  · rw [if_pos c2] at H
    have c2b0 : decide (a0 < 0) = true := decide_eq_true c2
    clear c2
    obtain rfl := Option.some.inj H
    go_enter Try.func39, Try.ntmps39
    go_wp2
    go_ret
    exact ⟨by first | rfl | (simp; done) | (simp [*]; done), by repeat (first | exact Drawn0.refl _ | apply Drawn0.step)⟩
  · rw [if_neg c2] at H
    have c2b0 : decide (a0 < 0) = false := decide_eq_false c2
    clear c2
    obtain rfl := Option.some.inj H
    go_enter Try.func39, Try.ntmps39
    go_wp2
    go_ret
    exact ⟨by first | rfl | (simp; done) | (simp [*]; done), by repeat (first | exact Drawn0.refl _ | apply Drawn0.step)⟩

/-! ### qfix_signed: by hand -/
def clampZ (a0 : Int) : Int := mn (mx a0 (-70368744177664)) 70368744177663
def clampB (a0 : Int) : Bool := (mn (mx a0 (-70368744177664)) 70368744177663) != a0
theorem clamp_any (a0 : Int) (w : World) :
    Calls Try.prog 45 #[.int .i64 a0] w fun e w' => e = .returned (.tuple #[.int .i64 (clampZ a0), .bool (clampB a0)]) ∧ Below w.heap.size w w' :=
  qfix_Clamp.calls a0 _ _ w rfl
def turnZ (b : Bool) (a0 : Int) : Int := if b = true then wrap64 (-a0) else a0
set_option maxHeartbeats 400000 in
theorem turn_calls (a0 : Int) (b : Bool) (A : Addr) (w : World) (hc : w.cell? A = some (.bool b)) :
    Calls Try.prog 51 #[.int .i64 a0, .pointer (some A)] w fun e w' => e = .returned (.int .i64 (turnZ b a0)) ∧ w' = w := by
  cases b
  · go_enter Try.func51, Try.ntmps51
    go_wp2
    go_ret
    exact ⟨by simp [turnZ], rfl⟩
  · go_enter Try.func51, Try.ntmps51
    go_wp2
    go_ret
    exact ⟨by simp [turnZ], rfl⟩
set_option maxHeartbeats 800000 in
theorem signed_far (a0 a1 : Int) (b : Bool) (w : World) (hd : ((a0 != 0) = true) ∨ ((a0 != 0) = false ∧ decide (a1 > 70368744177664) = true)) :
    Calls Try.prog 40 #[.int .u64 a0, .int .u64 a1, .bool b] w fun e w' => e = .returned (.tuple #[.int .i64 (clampZ (turnZ b 70368744177664)), .bool true]) ∧ Below w.heap.size w w' := by
  rcases hd with hd | ⟨hd, hd2⟩
  all_goals
    go_enter Try.func40, Try.ntmps40
    go_wp2_with (first | (go_at_call 51; refine (turn_calls _ b _ _ (by simp)).mono ?_; rintro e w' ⟨rfl, rfl⟩) | (go_at_call 45; refine (clamp_any _ _).mono ?_; rintro e w' ⟨rfl, hb⟩))
    go_ret2
    exact ⟨rfl, ((Below.refl _ _).alloc (Nat.le_refl _) _).trans (hb.mono (by simp))⟩
set_option maxHeartbeats 800000 in
theorem signed_near (a0 a1 : Int) (b : Bool) (w : World) (hd : (a0 != 0) = false) (hd2 : decide (a1 > 70368744177664) = false) :
    Calls Try.prog 40 #[.int .u64 a0, .int .u64 a1, .bool b] w fun e w' => e = .returned (.tuple #[.int .i64 (clampZ (turnZ b (wrap64 a1))), .bool (clampB (turnZ b (wrap64 a1)))]) ∧ Below w.heap.size w w' := by
  go_enter Try.func40, Try.ntmps40
  go_wp2_with (first | (go_at_call 51; refine (turn_calls _ b _ _ (by simp)).mono ?_; rintro e w' ⟨rfl, rfl⟩) | (go_at_call 45; refine (clamp_any _ _).mono ?_; rintro e w' ⟨rfl, hb⟩))
  go_ret2
  exact ⟨rfl, ((Below.refl _ _).alloc (Nat.le_refl _) _).trans (hb.mono (by simp))⟩
def qfix_signed.f (a0 : Int) (a1 : Int) (a2 : Bool) : Option (Int × Bool) :=
  if a0 = 0 then (if a1 > 70368744177664 then some (clampZ (turnZ a2 70368744177664), true) else some (clampZ (turnZ a2 (wrap64 a1)), clampB (turnZ a2 (wrap64 a1)))) else some (clampZ (turnZ a2 70368744177664), true)
theorem qfix_signed.calls (a0 : Int) (a1 : Int) (a2 : Bool) (r1 : Int) (r2 : Bool) (w : World) (h : qfix_signed.f a0 a1 a2 = some (r1, r2)) :
    Calls Try.prog 40 #[.int .u64 a0, .int .u64 a1, .bool a2] w fun e w' => e = .returned (.tuple #[.int .i64 r1, .bool r2]) ∧ Below w.heap.size w w' := by
  unfold qfix_signed.f at h
  by_cases h0 : a0 = 0
  · rw [if_pos h0] at h
    by_cases h1 : a1 > 70368744177664
    · rw [if_pos h1] at h
      simp only [Option.some.injEq, Prod.mk.injEq] at h
      obtain ⟨rfl, rfl⟩ := h
      exact signed_far a0 a1 a2 w (.inr ⟨by simp [h0], by simpa using h1⟩)
    · rw [if_neg h1] at h
      simp only [Option.some.injEq, Prod.mk.injEq] at h
      obtain ⟨rfl, rfl⟩ := h
      exact signed_near a0 a1 a2 w (by simp [h0]) (by simpa using h1)
  · rw [if_neg h0] at h
    simp only [Option.some.injEq, Prod.mk.injEq] at h
    obtain ⟨rfl, rfl⟩ := h
    exact signed_far a0 a1 a2 w (.inl (by simp [h0]))

/-! ### bits_Len64: off the shelf -/
def bits_Len64.f (a0 : Int) : Option (Int) := if 0 ≤ a0 ∧ a0 < 18446744073709551616 then some (Lib.bitLen a0.toNat : Int) else none

/-! ### bits_LeadingZeros64: off the shelf -/
def bits_LeadingZeros64.f (a0 : Int) : Option (Int) := if 0 ≤ a0 ∧ a0 < 18446744073709551616 then some (64 - (Lib.bitLen a0.toNat : Int)) else none
theorem bits_LeadingZeros64.calls (a0 : Int) (r : Int) (w : World) (h : bits_LeadingZeros64.f a0 = some r) :
    Calls Try.prog 52 #[.int .u64 a0] w fun e w' => e = .returned (.int .i64 r) ∧ Drawn0 w w' := by
  unfold bits_LeadingZeros64.f at h
  by_cases hb : 0 ≤ a0 ∧ a0 < 18446744073709551616
  · rw [if_pos hb] at h
    simp only [Option.some.injEq] at h
    subst h
    refine (Try.bits_LeadingZeros64 a0 w hb.1 (by omega)).mono ?_
    rintro e w' ⟨rfl, rfl⟩
    exact ⟨rfl, Drawn0.refl _⟩
  · rw [if_neg hb] at h
    cases h

end Go.Proofs.Ytmjncjaalleblaa.PQ
