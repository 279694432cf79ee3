-- Laid by a program of this session's own (wip/print-patch.py over the kit's print), out of the translation; Lean checks it.
import Derived.Test.YtnihbplibmljlaaPQx0
namespace Go.Proofs.Ytnihbplibmljlaa.PQ
open Go.RowKit Go.Proofs.YtnihbplibmljlaaW.PrintWords Go.Proofs.YtnihbplibmljlaaW.PrintLast Go.Proofs.YtnihbplibmljlaaW.PrintMore
attribute [local go_sem] max2_int min2_int max_two min_two max_three min_three max_four min_four   -- for this text's walks alone
set_option linter.unusedVariables false
set_option linter.unusedSimpArgs false

/-! ### qfix_Clamp: function 30 -/
def qfix_Clamp.f (a0 : Int) : Option (Int × Bool) := some (mn (mx a0 (-70368744177664)) 70368744177663, ((mn (mx a0 (-70368744177664)) 70368744177663) != a0))
set_option maxHeartbeats 8000000 in
set_option maxRecDepth 100000 in
theorem qfix_Clamp.calls (a0 : Int) (r1 : Int) (r2 : Bool) (w : World) (h : qfix_Clamp.f a0 = some (r1, r2)) :
    Calls Try.prog 30 #[.int .i64 a0] w fun e w' => e = .returned (.tuple #[.int .i64 r1, .bool r2]) ∧ Below w.heap.size w w' := by
  have HB := Aside0.mk (Below.refl w.heap.size w)
  have H : (some (mn (mx a0 (-70368744177664)) 70368744177663, ((mn (mx a0 (-70368744177664)) 70368744177663) != a0))) = some (r1, r2) := h
  clear h
  obtain ⟨ji2, hji2⟩ : ∃ j_ : Int, (mx a0 (-70368744177664)) = j_ := ⟨_, rfl⟩
  replace H : (some (mn (ji2) 70368744177663, ((mn (ji2) 70368744177663) != a0))) = some (r1, r2) := by first | (rw [hji2] at H; exact H) | (simp only [hji2] at H ⊢; exact H)
  have hji2_ : (if a0 < (-70368744177664) then (-70368744177664) else a0) = ji2 := hji2
  obtain ⟨ji3, hji3⟩ : ∃ j_ : Int, (mn (ji2) 70368744177663) = j_ := ⟨_, rfl⟩
  replace H : (some (ji3, ((ji3) != a0))) = some (r1, r2) := by first | (rw [hji3] at H; exact H) | (simp only [hji3] at H ⊢; exact H)
  have hji3_ : (if 70368744177663 < (ji2) then 70368744177663 else (ji2)) = ji3 := hji3
  simp only [Option.some.injEq, Prod.mk.injEq] at H
  obtain ⟨rfl, rfl⟩ := H
  go_enter Try.func30, Try.ntmps30
  go_wp2
  go_ret2
  exact ⟨by first | rfl | (simp [errW_none, errW_some] <;> rfl) | (simp only [← hji2, ← hji3]; first | rfl | (simp [errW_none, errW_some] <;> rfl)) | (simp [*, errW_none, errW_some] <;> rfl), by repeat (first | (with_reducible first | exact HB.out | apply below_alloc | apply pw_below_drewN | apply below_drew1) | exact HB.out)⟩

/-! ### qfix_both: function 25 -/
def qfix_both.f (a0 : Int) (a1 : Int) : Option (Int × Int × Bool) := (qfix_Clamp.f a0).bind fun bt101 => ((qfix_Clamp.f a1).bind fun bt103 => (if bt101.2 = true then (some (bt101.1, bt103.1, true)) else (some (bt101.1, bt103.1, bt103.2))))
set_option maxHeartbeats 8000000 in
set_option maxRecDepth 100000 in
theorem qfix_both.calls (a0 : Int) (a1 : Int) (r1 : Int) (r2 : Int) (r3 : Bool) (w : World) (h : qfix_both.f a0 a1 = some (r1, r2, r3)) :
    Calls Try.prog 25 #[.int .i64 a0, .int .i64 a1] w fun e w' => e = .returned (.tuple #[.int .i64 r1, .int .i64 r2, .bool r3]) ∧ Below w.heap.size w w' := by
  have HB := Aside0.mk (Below.refl w.heap.size w)
  have H : ((qfix_Clamp.f a0).bind fun bt101 => ((qfix_Clamp.f a1).bind fun bt103 => (if bt101.2 = true then (some (bt101.1, bt103.1, true)) else (some (bt101.1, bt103.1, bt103.2))))) = some (r1, r2, r3) := h
  clear h
  replace H := Option.bind_eq_some_iff.mp H
  obtain ⟨⟨t101, t102⟩, A30, H⟩ := H
  replace H : ((qfix_Clamp.f a1).bind fun bt103 => (if t102 = true then (some (t101, bt103.1, true)) else (some (t101, bt103.1, bt103.2)))) = some (r1, r2, r3) := H
  have A3 := Aside0.mk A30
  clear A30
  replace H := Option.bind_eq_some_iff.mp H
  obtain ⟨⟨t103, t104⟩, A40, H⟩ := H
  replace H : (if t102 = true then (some (t101, t103, true)) else (some (t101, t103, t104))) = some (r1, r2, r3) := H
  have A4 := Aside0.mk A40
  clear A40
  by_cases c5 : t102 = true
  · subst c5
    have H1 : (some (t101, t103, true)) = some (r1, r2, r3) := by rw [if_pos rfl] at H; exact H
    clear H
    have H := H1
    clear H1
    simp only [Option.some.injEq, Prod.mk.injEq] at H
    obtain ⟨rfl, rfl, rfl⟩ := H
    go_enter Try.func25, Try.ntmps25
    go_wp2_with (first | ((with_reducible refine gate_callee (f := 30) rfl ?_); refine goesL_ (some 11) rfl rfl Try.func30 (by kernel_rfl) rfl #[.int .i64 a0] rfl (by (try simp only [List.map_toArray, List.map_cons, List.map_nil]); first | done | rfl | (simp only [List.length_drop, List.length_take]; rfl)) ?_; (with_reducible refine (qfix_Clamp.calls a0 t101 true _ A3.out).mono ?_); rintro e w6 ⟨rfl, hb⟩; refine ⟨_, rfl, ?_⟩; have n0_ := Aside0.mk (below_step (by repeat (first | (with_reducible first | exact HB.out | apply below_alloc | apply pw_below_drewN | apply below_drew1) | exact HB.out)) hb); clear HB; have HB := n0_; clear n0_; (try clear hb); (try clear hb2); (try clear hk); (try clear hi)) | ((with_reducible refine gate_callee (f := 30) rfl ?_); refine goesL_ (some 16) rfl rfl Try.func30 (by kernel_rfl) rfl #[.int .i64 a1] rfl (by (try simp only [List.map_toArray, List.map_cons, List.map_nil]); first | done | rfl | (simp only [List.length_drop, List.length_take]; rfl)) ?_; (with_reducible refine (qfix_Clamp.calls a1 t103 t104 _ A4.out).mono ?_); rintro e w7 ⟨rfl, hb⟩; refine ⟨_, rfl, ?_⟩; have n0_ := Aside0.mk (below_step (by repeat (first | (with_reducible first | exact HB.out | apply below_alloc | apply pw_below_drewN | apply below_drew1) | exact HB.out)) hb); clear HB; have HB := n0_; clear n0_; (try clear hb); (try clear hb2); (try clear hk); (try clear hi)))
    go_ret3
    exact ⟨by first | rfl | (simp [errW_none, errW_some] <;> rfl) | (simp [*, errW_none, errW_some] <;> rfl), by repeat (first | (with_reducible first | exact HB.out | apply below_alloc | apply pw_below_drewN | apply below_drew1) | exact HB.out)⟩
  · replace c5 := Bool.eq_false_iff.mpr c5
    subst c5
    have H1 : (some (t101, t103, t104)) = some (r1, r2, r3) := by rw [if_neg (show ¬ (false = true) by decide)] at H; exact H
    clear H
    have H := H1
    clear H1
    simp only [Option.some.injEq, Prod.mk.injEq] at H
    obtain ⟨rfl, rfl, rfl⟩ := H
    go_enter Try.func25, Try.ntmps25
    go_wp2_with (first | ((with_reducible refine gate_callee (f := 30) rfl ?_); refine goesL_ (some 11) rfl rfl Try.func30 (by kernel_rfl) rfl #[.int .i64 a0] rfl (by (try simp only [List.map_toArray, List.map_cons, List.map_nil]); first | done | rfl | (simp only [List.length_drop, List.length_take]; rfl)) ?_; (with_reducible refine (qfix_Clamp.calls a0 t101 false _ A3.out).mono ?_); rintro e w8 ⟨rfl, hb⟩; refine ⟨_, rfl, ?_⟩; have n0_ := Aside0.mk (below_step (by repeat (first | (with_reducible first | exact HB.out | apply below_alloc | apply pw_below_drewN | apply below_drew1) | exact HB.out)) hb); clear HB; have HB := n0_; clear n0_; (try clear hb); (try clear hb2); (try clear hk); (try clear hi)) | ((with_reducible refine gate_callee (f := 30) rfl ?_); refine goesL_ (some 16) rfl rfl Try.func30 (by kernel_rfl) rfl #[.int .i64 a1] rfl (by (try simp only [List.map_toArray, List.map_cons, List.map_nil]); first | done | rfl | (simp only [List.length_drop, List.length_take]; rfl)) ?_; (with_reducible refine (qfix_Clamp.calls a1 t103 t104 _ A4.out).mono ?_); rintro e w9 ⟨rfl, hb⟩; refine ⟨_, rfl, ?_⟩; have n0_ := Aside0.mk (below_step (by repeat (first | (with_reducible first | exact HB.out | apply below_alloc | apply pw_below_drewN | apply below_drew1) | exact HB.out)) hb); clear HB; have HB := n0_; clear n0_; (try clear hb); (try clear hb2); (try clear hk); (try clear hi)))
    go_ret3
    exact ⟨by first | rfl | (simp [errW_none, errW_some] <;> rfl) | (simp [*, errW_none, errW_some] <;> rfl), by repeat (first | (with_reducible first | exact HB.out | apply below_alloc | apply pw_below_drewN | apply below_drew1) | exact HB.out)⟩

/-! ### bits_Mul64: off the shelf -/
def bits_Mul64.f (a0 : Int) (a1 : Int) : Option (Int × Int) := if 0 ≤ a0 ∧ a0 < 18446744073709551616 ∧ 0 ≤ a1 ∧ a1 < 18446744073709551616 then some (a0 * a1 / 18446744073709551616, a0 * a1 % 18446744073709551616) else none
theorem bits_Mul64.calls (a0 : Int) (a1 : Int) (r1 : Int) (r2 : Int) (w : World) (h : bits_Mul64.f a0 a1 = some (r1, r2)) :
    Calls Try.prog 26 #[.int .u64 a0, .int .u64 a1] w fun e w' => e = .returned (.tuple #[.int .u64 r1, .int .u64 r2]) ∧ Drawn0 w w' := by
  unfold bits_Mul64.f at h
  by_cases hb : 0 ≤ a0 ∧ a0 < 18446744073709551616 ∧ 0 ≤ a1 ∧ a1 < 18446744073709551616
  · rw [if_pos hb] at h
    simp only [Option.some.injEq, Prod.mk.injEq] at h
    obtain ⟨rfl, rfl⟩ := h
    obtain ⟨x, rfl⟩ := Int.eq_ofNat_of_zero_le hb.1
    obtain ⟨y, rfl⟩ := Int.eq_ofNat_of_zero_le hb.2.2.1
    refine (Try.bits_Mul64 x y (by omega) (by omega) w).mono ?_
    rintro e w' ⟨rfl, rfl⟩
    exact ⟨by simp, Drawn0.refl _⟩
  · rw [if_neg hb] at h
    cases h

/-! ### qfix_size: function 27 -/
def qfix_size.f (a0 : Int) : Option (Int) := if a0 < 0 then (some (IntKind.u64.wrap (wrap64 (-a0)))) else (some (IntKind.u64.wrap (a0)))
set_option maxHeartbeats 8000000 in
set_option maxRecDepth 100000 in
theorem qfix_size.calls (a0 : Int) (r : Int) (w : World) (h : qfix_size.f a0 = some r) :
    Calls Try.prog 27 #[.int .i64 a0] w fun e w' => e = .returned (.int .u64 r) ∧ Drawn0 w w' := by
  have H : (if a0 < 0 then (some (IntKind.u64.wrap (wrap64 (-a0)))) else (some (IntKind.u64.wrap (a0)))) = some r := h
  clear h
  by_cases c2 : a0 < 0
  · rw [if_pos c2] at H
    have c2b0 : decide (a0 < 0) = true := decide_eq_true c2
    clear c2
    obtain rfl := Option.some.inj H
    go_enter Try.func27, Try.ntmps27
    go_wp2
    go_ret
    exact ⟨by first | rfl | (simp; done) | (simp [*]; done), by repeat (first | exact Drawn0.refl _ | apply Drawn0.step)⟩
  · rw [if_neg c2] at H
    have c2b0 : decide (a0 < 0) = false := decide_eq_false c2
    clear c2
    obtain rfl := Option.some.inj H
    go_enter Try.func27, Try.ntmps27
    go_wp2
    go_ret
    exact ⟨by first | rfl | (simp; done) | (simp [*]; done), by repeat (first | exact Drawn0.refl _ | apply Drawn0.step)⟩

/-! ### qfix_signed: by hand -/
def clampZ (a0 : Int) : Int := mn (mx a0 (-70368744177664)) 70368744177663
def clampB (a0 : Int) : Bool := (mn (mx a0 (-70368744177664)) 70368744177663) != a0
theorem clamp_any (a0 : Int) (w : World) :
    Calls Try.prog 30 #[.int .i64 a0] w fun e w' => e = .returned (.tuple #[.int .i64 (clampZ a0), .bool (clampB a0)]) ∧ Below w.heap.size w w' :=
  qfix_Clamp.calls a0 _ _ w rfl
def turnZ (b : Bool) (a0 : Int) : Int := if b = true then wrap64 (-a0) else a0
set_option maxHeartbeats 400000 in
theorem turn_calls (a0 : Int) (b : Bool) (A : Addr) (w : World) (hc : w.cell? A = some (.bool b)) :
    Calls Try.prog 35 #[.int .i64 a0, .pointer (some A)] w fun e w' => e = .returned (.int .i64 (turnZ b a0)) ∧ w' = w := by
  cases b
  · go_enter Try.func35, Try.ntmps35
    go_wp2
    go_ret
    exact ⟨by simp [turnZ], rfl⟩
  · go_enter Try.func35, Try.ntmps35
    go_wp2
    go_ret
    exact ⟨by simp [turnZ], rfl⟩
set_option maxHeartbeats 800000 in
theorem signed_far (a0 a1 : Int) (b : Bool) (w : World) (hd : ((a0 != 0) = true) ∨ ((a0 != 0) = false ∧ decide (a1 > 70368744177664) = true)) :
    Calls Try.prog 28 #[.int .u64 a0, .int .u64 a1, .bool b] w fun e w' => e = .returned (.tuple #[.int .i64 (clampZ (turnZ b 70368744177664)), .bool true]) ∧ Below w.heap.size w w' := by
  rcases hd with hd | ⟨hd, hd2⟩
  all_goals
    go_enter Try.func28, Try.ntmps28
    go_wp2_with (first | (go_at_call 35; refine (turn_calls _ b _ _ (by simp)).mono ?_; rintro e w' ⟨rfl, rfl⟩) | (go_at_call 30; refine (clamp_any _ _).mono ?_; rintro e w' ⟨rfl, hb⟩))
    go_ret2
    exact ⟨rfl, ((Below.refl _ _).alloc (Nat.le_refl _) _).trans (hb.mono (by simp))⟩
set_option maxHeartbeats 800000 in
theorem signed_near (a0 a1 : Int) (b : Bool) (w : World) (hd : (a0 != 0) = false) (hd2 : decide (a1 > 70368744177664) = false) :
    Calls Try.prog 28 #[.int .u64 a0, .int .u64 a1, .bool b] w fun e w' => e = .returned (.tuple #[.int .i64 (clampZ (turnZ b (wrap64 a1))), .bool (clampB (turnZ b (wrap64 a1)))]) ∧ Below w.heap.size w w' := by
  go_enter Try.func28, Try.ntmps28
  go_wp2_with (first | (go_at_call 35; refine (turn_calls _ b _ _ (by simp)).mono ?_; rintro e w' ⟨rfl, rfl⟩) | (go_at_call 30; refine (clamp_any _ _).mono ?_; rintro e w' ⟨rfl, hb⟩))
  go_ret2
  exact ⟨rfl, ((Below.refl _ _).alloc (Nat.le_refl _) _).trans (hb.mono (by simp))⟩
def qfix_signed.f (a0 : Int) (a1 : Int) (a2 : Bool) : Option (Int × Bool) :=
  if a0 = 0 then (if a1 > 70368744177664 then some (clampZ (turnZ a2 70368744177664), true) else some (clampZ (turnZ a2 (wrap64 a1)), clampB (turnZ a2 (wrap64 a1)))) else some (clampZ (turnZ a2 70368744177664), true)
theorem qfix_signed.calls (a0 : Int) (a1 : Int) (a2 : Bool) (r1 : Int) (r2 : Bool) (w : World) (h : qfix_signed.f a0 a1 a2 = some (r1, r2)) :
    Calls Try.prog 28 #[.int .u64 a0, .int .u64 a1, .bool a2] w fun e w' => e = .returned (.tuple #[.int .i64 r1, .bool r2]) ∧ Below w.heap.size w w' := by
  unfold qfix_signed.f at h
  by_cases h0 : a0 = 0
  · rw [if_pos h0] at h
    by_cases h1 : a1 > 70368744177664
    · rw [if_pos h1] at h
      simp only [Option.some.injEq, Prod.mk.injEq] at h
      obtain ⟨rfl, rfl⟩ := h
      exact signed_far a0 a1 a2 w (.inr ⟨by simp [h0], by simpa using h1⟩)
    · rw [if_neg h1] at h
      simp only [Option.some.injEq, Prod.mk.injEq] at h
      obtain ⟨rfl, rfl⟩ := h
      exact signed_near a0 a1 a2 w (by simp [h0]) (by simpa using h1)
  · rw [if_neg h0] at h
    simp only [Option.some.injEq, Prod.mk.injEq] at h
    obtain ⟨rfl, rfl⟩ := h
    exact signed_far a0 a1 a2 w (.inl (by simp [h0]))

/-! ### qfix_Mul: function 11 -/
def qfix_Mul.f (a0 : Int) (a1 : Int) : Option (Int × Bool) := (qfix_both.f a0 a1).bind fun bt105 => ((qfix_size.f bt105.1).bind fun t108 => ((qfix_size.f bt105.2.1).bind fun t109 => ((bits_Mul64.f t108 t109).bind fun bt110 => (if (Go.bits .and .u64 bt110.2 16777215) > 8388608 then ((qfix_signed.f (bt110.1 / 16777216) (IntKind.u64.wrap ((Go.bits .or .u64 (bt110.2 / 16777216) (IntKind.u64.wrap (bt110.1 * 1099511627776))) + 1)) ((decide (bt105.1 < 0)) != (decide (bt105.2.1 < 0)))).bind fun bt112 => (if bt105.2.2 = true then (some (bt112.1, true)) else (some (bt112.1, bt112.2)))) else (if (Go.bits .and .u64 bt110.2 16777215) = 8388608 then (if (Go.bits .and .u64 (Go.bits .or .u64 (bt110.2 / 16777216) (IntKind.u64.wrap (bt110.1 * 1099511627776))) 1) = 1 then ((qfix_signed.f (bt110.1 / 16777216) (IntKind.u64.wrap ((Go.bits .or .u64 (bt110.2 / 16777216) (IntKind.u64.wrap (bt110.1 * 1099511627776))) + 1)) ((decide (bt105.1 < 0)) != (decide (bt105.2.1 < 0)))).bind fun bt114 => (if bt105.2.2 = true then (some (bt114.1, true)) else (some (bt114.1, bt114.2)))) else ((qfix_signed.f (bt110.1 / 16777216) (Go.bits .or .u64 (bt110.2 / 16777216) (IntKind.u64.wrap (bt110.1 * 1099511627776))) ((decide (bt105.1 < 0)) != (decide (bt105.2.1 < 0)))).bind fun bt116 => (if bt105.2.2 = true then (some (bt116.1, true)) else (some (bt116.1, bt116.2))))) else ((qfix_signed.f (bt110.1 / 16777216) (Go.bits .or .u64 (bt110.2 / 16777216) (IntKind.u64.wrap (bt110.1 * 1099511627776))) ((decide (bt105.1 < 0)) != (decide (bt105.2.1 < 0)))).bind fun bt118 => (if bt105.2.2 = true then (some (bt118.1, true)) else (some (bt118.1, bt118.2)))))))))
set_option maxHeartbeats 8000000 in
set_option maxRecDepth 100000 in
theorem qfix_Mul.calls (a0 : Int) (a1 : Int) (r1 : Int) (r2 : Bool) (w : World) (h : qfix_Mul.f a0 a1 = some (r1, r2)) :
    Calls Try.prog 11 #[.int .i64 a0, .int .i64 a1] w fun e w' => e = .returned (.tuple #[.int .i64 r1, .bool r2]) ∧ Below w.heap.size w w' := by
  have HB := Aside0.mk (Below.refl w.heap.size w)
  have H : ((qfix_both.f a0 a1).bind fun bt105 => ((qfix_size.f bt105.1).bind fun t108 => ((qfix_size.f bt105.2.1).bind fun t109 => ((bits_Mul64.f t108 t109).bind fun bt110 => (if (Go.bits .and .u64 bt110.2 16777215) > 8388608 then ((qfix_signed.f (bt110.1 / 16777216) (IntKind.u64.wrap ((Go.bits .or .u64 (bt110.2 / 16777216) (IntKind.u64.wrap (bt110.1 * 1099511627776))) + 1)) ((decide (bt105.1 < 0)) != (decide (bt105.2.1 < 0)))).bind fun bt112 => (if bt105.2.2 = true then (some (bt112.1, true)) else (some (bt112.1, bt112.2)))) else (if (Go.bits .and .u64 bt110.2 16777215) = 8388608 then (if (Go.bits .and .u64 (Go.bits .or .u64 (bt110.2 / 16777216) (IntKind.u64.wrap (bt110.1 * 1099511627776))) 1) = 1 then ((qfix_signed.f (bt110.1 / 16777216) (IntKind.u64.wrap ((Go.bits .or .u64 (bt110.2 / 16777216) (IntKind.u64.wrap (bt110.1 * 1099511627776))) + 1)) ((decide (bt105.1 < 0)) != (decide (bt105.2.1 < 0)))).bind fun bt114 => (if bt105.2.2 = true then (some (bt114.1, true)) else (some (bt114.1, bt114.2)))) else ((qfix_signed.f (bt110.1 / 16777216) (Go.bits .or .u64 (bt110.2 / 16777216) (IntKind.u64.wrap (bt110.1 * 1099511627776))) ((decide (bt105.1 < 0)) != (decide (bt105.2.1 < 0)))).bind fun bt116 => (if bt105.2.2 = true then (some (bt116.1, true)) else (some (bt116.1, bt116.2))))) else ((qfix_signed.f (bt110.1 / 16777216) (Go.bits .or .u64 (bt110.2 / 16777216) (IntKind.u64.wrap (bt110.1 * 1099511627776))) ((decide (bt105.1 < 0)) != (decide (bt105.2.1 < 0)))).bind fun bt118 => (if bt105.2.2 = true then (some (bt118.1, true)) else (some (bt118.1, bt118.2)))))))))) = some (r1, r2) := h
  clear h
  replace H := Option.bind_eq_some_iff.mp H
  obtain ⟨⟨t105, t106, t107⟩, A30, H⟩ := H
  replace H : ((qfix_size.f t105).bind fun t108 => ((qfix_size.f t106).bind fun t109 => ((bits_Mul64.f t108 t109).bind fun bt110 => (if (Go.bits .and .u64 bt110.2 16777215) > 8388608 then ((qfix_signed.f (bt110.1 / 16777216) (IntKind.u64.wrap ((Go.bits .or .u64 (bt110.2 / 16777216) (IntKind.u64.wrap (bt110.1 * 1099511627776))) + 1)) ((decide (t105 < 0)) != (decide (t106 < 0)))).bind fun bt112 => (if t107 = true then (some (bt112.1, true)) else (some (bt112.1, bt112.2)))) else (if (Go.bits .and .u64 bt110.2 16777215) = 8388608 then (if (Go.bits .and .u64 (Go.bits .or .u64 (bt110.2 / 16777216) (IntKind.u64.wrap (bt110.1 * 1099511627776))) 1) = 1 then ((qfix_signed.f (bt110.1 / 16777216) (IntKind.u64.wrap ((Go.bits .or .u64 (bt110.2 / 16777216) (IntKind.u64.wrap (bt110.1 * 1099511627776))) + 1)) ((decide (t105 < 0)) != (decide (t106 < 0)))).bind fun bt114 => (if t107 = true then (some (bt114.1, true)) else (some (bt114.1, bt114.2)))) else ((qfix_signed.f (bt110.1 / 16777216) (Go.bits .or .u64 (bt110.2 / 16777216) (IntKind.u64.wrap (bt110.1 * 1099511627776))) ((decide (t105 < 0)) != (decide (t106 < 0)))).bind fun bt116 => (if t107 = true then (some (bt116.1, true)) else (some (bt116.1, bt116.2))))) else ((qfix_signed.f (bt110.1 / 16777216) (Go.bits .or .u64 (bt110.2 / 16777216) (IntKind.u64.wrap (bt110.1 * 1099511627776))) ((decide (t105 < 0)) != (decide (t106 < 0)))).bind fun bt118 => (if t107 = true then (some (bt118.1, true)) else (some (bt118.1, bt118.2))))))))) = some (r1, r2) := H
  have A3 := Aside0.mk A30
  clear A30
  replace H := Option.bind_eq_some_iff.mp H
  obtain ⟨t108, A40, H⟩ := H
  replace H : ((qfix_size.f t106).bind fun t109 => ((bits_Mul64.f t108 t109).bind fun bt110 => (if (Go.bits .and .u64 bt110.2 16777215) > 8388608 then ((qfix_signed.f (bt110.1 / 16777216) (IntKind.u64.wrap ((Go.bits .or .u64 (bt110.2 / 16777216) (IntKind.u64.wrap (bt110.1 * 1099511627776))) + 1)) ((decide (t105 < 0)) != (decide (t106 < 0)))).bind fun bt112 => (if t107 = true then (some (bt112.1, true)) else (some (bt112.1, bt112.2)))) else (if (Go.bits .and .u64 bt110.2 16777215) = 8388608 then (if (Go.bits .and .u64 (Go.bits .or .u64 (bt110.2 / 16777216) (IntKind.u64.wrap (bt110.1 * 1099511627776))) 1) = 1 then ((qfix_signed.f (bt110.1 / 16777216) (IntKind.u64.wrap ((Go.bits .or .u64 (bt110.2 / 16777216) (IntKind.u64.wrap (bt110.1 * 1099511627776))) + 1)) ((decide (t105 < 0)) != (decide (t106 < 0)))).bind fun bt114 => (if t107 = true then (some (bt114.1, true)) else (some (bt114.1, bt114.2)))) else ((qfix_signed.f (bt110.1 / 16777216) (Go.bits .or .u64 (bt110.2 / 16777216) (IntKind.u64.wrap (bt110.1 * 1099511627776))) ((decide (t105 < 0)) != (decide (t106 < 0)))).bind fun bt116 => (if t107 = true then (some (bt116.1, true)) else (some (bt116.1, bt116.2))))) else ((qfix_signed.f (bt110.1 / 16777216) (Go.bits .or .u64 (bt110.2 / 16777216) (IntKind.u64.wrap (bt110.1 * 1099511627776))) ((decide (t105 < 0)) != (decide (t106 < 0)))).bind fun bt118 => (if t107 = true then (some (bt118.1, true)) else (some (bt118.1, bt118.2)))))))) = some (r1, r2) := H
  have A4 := Aside0.mk A40
  clear A40
  replace H := Option.bind_eq_some_iff.mp H
  obtain ⟨t109, A50, H⟩ := H
  replace H : ((bits_Mul64.f t108 t109).bind fun bt110 => (if (Go.bits .and .u64 bt110.2 16777215) > 8388608 then ((qfix_signed.f (bt110.1 / 16777216) (IntKind.u64.wrap ((Go.bits .or .u64 (bt110.2 / 16777216) (IntKind.u64.wrap (bt110.1 * 1099511627776))) + 1)) ((decide (t105 < 0)) != (decide (t106 < 0)))).bind fun bt112 => (if t107 = true then (some (bt112.1, true)) else (some (bt112.1, bt112.2)))) else (if (Go.bits .and .u64 bt110.2 16777215) = 8388608 then (if (Go.bits .and .u64 (Go.bits .or .u64 (bt110.2 / 16777216) (IntKind.u64.wrap (bt110.1 * 1099511627776))) 1) = 1 then ((qfix_signed.f (bt110.1 / 16777216) (IntKind.u64.wrap ((Go.bits .or .u64 (bt110.2 / 16777216) (IntKind.u64.wrap (bt110.1 * 1099511627776))) + 1)) ((decide (t105 < 0)) != (decide (t106 < 0)))).bind fun bt114 => (if t107 = true then (some (bt114.1, true)) else (some (bt114.1, bt114.2)))) else ((qfix_signed.f (bt110.1 / 16777216) (Go.bits .or .u64 (bt110.2 / 16777216) (IntKind.u64.wrap (bt110.1 * 1099511627776))) ((decide (t105 < 0)) != (decide (t106 < 0)))).bind fun bt116 => (if t107 = true then (some (bt116.1, true)) else (some (bt116.1, bt116.2))))) else ((qfix_signed.f (bt110.1 / 16777216) (Go.bits .or .u64 (bt110.2 / 16777216) (IntKind.u64.wrap (bt110.1 * 1099511627776))) ((decide (t105 < 0)) != (decide (t106 < 0)))).bind fun bt118 => (if t107 = true then (some (bt118.1, true)) else (some (bt118.1, bt118.2))))))) = some (r1, r2) := H
  have A5 := Aside0.mk A50
  clear A50
  replace H := Option.bind_eq_some_iff.mp H
  obtain ⟨⟨t110, t111⟩, A60, H⟩ := H
  replace H : (if (Go.bits .and .u64 t111 16777215) > 8388608 then ((qfix_signed.f (t110 / 16777216) (IntKind.u64.wrap ((Go.bits .or .u64 (t111 / 16777216) (IntKind.u64.wrap (t110 * 1099511627776))) + 1)) ((decide (t105 < 0)) != (decide (t106 < 0)))).bind fun bt112 => (if t107 = true then (some (bt112.1, true)) else (some (bt112.1, bt112.2)))) else (if (Go.bits .and .u64 t111 16777215) = 8388608 then (if (Go.bits .and .u64 (Go.bits .or .u64 (t111 / 16777216) (IntKind.u64.wrap (t110 * 1099511627776))) 1) = 1 then ((qfix_signed.f (t110 / 16777216) (IntKind.u64.wrap ((Go.bits .or .u64 (t111 / 16777216) (IntKind.u64.wrap (t110 * 1099511627776))) + 1)) ((decide (t105 < 0)) != (decide (t106 < 0)))).bind fun bt114 => (if t107 = true then (some (bt114.1, true)) else (some (bt114.1, bt114.2)))) else ((qfix_signed.f (t110 / 16777216) (Go.bits .or .u64 (t111 / 16777216) (IntKind.u64.wrap (t110 * 1099511627776))) ((decide (t105 < 0)) != (decide (t106 < 0)))).bind fun bt116 => (if t107 = true then (some (bt116.1, true)) else (some (bt116.1, bt116.2))))) else ((qfix_signed.f (t110 / 16777216) (Go.bits .or .u64 (t111 / 16777216) (IntKind.u64.wrap (t110 * 1099511627776))) ((decide (t105 < 0)) != (decide (t106 < 0)))).bind fun bt118 => (if t107 = true then (some (bt118.1, true)) else (some (bt118.1, bt118.2)))))) = some (r1, r2) := H
  have A6 := Aside0.mk A60
  clear A60
  by_cases c7 : (Go.bits .and .u64 t111 16777215) > 8388608
  · rw [if_pos c7] at H
    have c7b0 : decide (8388608 < (Go.bits .and .u64 t111 16777215)) = true := decide_eq_true c7
    clear c7
    replace H := Option.bind_eq_some_iff.mp H
    obtain ⟨⟨t112, t113⟩, A80, H⟩ := H
    replace H : (if t107 = true then (some (t112, true)) else (some (t112, t113))) = some (r1, r2) := H
    have A8 := Aside0.mk A80
    clear A80
    by_cases c9 : t107 = true
    · subst c9
      have H1 : (some (t112, true)) = some (r1, r2) := by rw [if_pos rfl] at H; exact H
      clear H
      have H := H1
      clear H1
      simp only [Option.some.injEq, Prod.mk.injEq] at H
      obtain ⟨rfl, rfl⟩ := H
      go_enter Try.func11, Try.ntmps11
      go_wp2_with (first | ((with_reducible refine gate_callee (f := 25) rfl ?_); refine goesL_ (some 15) rfl rfl Try.func25 (by kernel_rfl) rfl #[.int .i64 a0, .int .i64 a1] rfl (by (try simp only [List.map_toArray, List.map_cons, List.map_nil]); first | done | rfl | (simp only [List.length_drop, List.length_take]; rfl)) ?_; (with_reducible refine (qfix_both.calls a0 a1 t105 t106 true _ A3.out).mono ?_); rintro e w10 ⟨rfl, hb⟩; refine ⟨_, rfl, ?_⟩; have n0_ := Aside0.mk (below_step (by repeat (first | (with_reducible first | exact HB.out | apply below_alloc | apply pw_below_drewN | apply below_drew1) | exact HB.out)) hb); clear HB; have HB := n0_; clear n0_; (try clear hb); (try clear hb2); (try clear hk); (try clear hi)) | ((with_reducible refine gate_callee (f := 27) rfl ?_); refine goesL_ (some 21) rfl rfl Try.func27 (by kernel_rfl) rfl #[.int .i64 t105] rfl (by (try simp only [List.map_toArray, List.map_cons, List.map_nil]); first | done | rfl | (simp only [List.length_drop, List.length_take]; rfl)) ?_; (with_reducible refine (qfix_size.calls t105 t108 _ A4.out).mono ?_); rintro e w' ⟨rfl, ⟨nd, rfl⟩⟩; refine ⟨_, rfl, ?_⟩) | ((with_reducible refine gate_callee (f := 27) rfl ?_); refine goesL_ (some 23) rfl rfl Try.func27 (by kernel_rfl) rfl #[.int .i64 t106] rfl (by (try simp only [List.map_toArray, List.map_cons, List.map_nil]); first | done | rfl | (simp only [List.length_drop, List.length_take]; rfl)) ?_; (with_reducible refine (qfix_size.calls t106 t109 _ A5.out).mono ?_); rintro e w' ⟨rfl, ⟨nd, rfl⟩⟩; refine ⟨_, rfl, ?_⟩) | ((with_reducible refine gate_callee (f := 26) rfl ?_); refine goesL_ (some 24) rfl rfl Try.func26 (by kernel_rfl) rfl #[.int .u64 t108, .int .u64 t109] rfl (by (try simp only [List.map_toArray, List.map_cons, List.map_nil]); first | done | rfl | (simp only [List.length_drop, List.length_take]; rfl)) ?_; (with_reducible refine (bits_Mul64.calls t108 t109 t110 t111 _ A6.out).mono ?_); rintro e w' ⟨rfl, ⟨nd, rfl⟩⟩; refine ⟨_, rfl, ?_⟩) | ((with_reducible refine gate_callee (f := 28) rfl ?_); refine goesL_ (some 57) rfl rfl Try.func28 (by kernel_rfl) rfl #[.int .u64 (t110 / 16777216), .int .u64 (IntKind.u64.wrap ((Go.bits .or .u64 (t111 / 16777216) (IntKind.u64.wrap (t110 * 1099511627776))) + 1)), .bool ((decide (t105 < 0)) != (decide (t106 < 0)))] rfl (by (try simp only [List.map_toArray, List.map_cons, List.map_nil]); first | done | rfl | (simp only [List.length_drop, List.length_take]; rfl)) ?_; (with_reducible refine (qfix_signed.calls (t110 / 16777216) (IntKind.u64.wrap ((Go.bits .or .u64 (t111 / 16777216) (IntKind.u64.wrap (t110 * 1099511627776))) + 1)) ((decide (t105 < 0)) != (decide (t106 < 0))) t112 t113 _ A8.out).mono ?_); rintro e w11 ⟨rfl, hb⟩; refine ⟨_, rfl, ?_⟩; have n0_ := Aside0.mk (below_step (by repeat (first | (with_reducible first | exact HB.out | apply below_alloc | apply pw_below_drewN | apply below_drew1) | exact HB.out)) hb); clear HB; have HB := n0_; clear n0_; (try clear hb); (try clear hb2); (try clear hk); (try clear hi)))
      go_ret2
      exact ⟨by first | rfl | (simp [errW_none, errW_some] <;> rfl) | (simp [*, errW_none, errW_some] <;> rfl), by repeat (first | (with_reducible first | exact HB.out | apply below_alloc | apply pw_below_drewN | apply below_drew1) | exact HB.out)⟩
    · replace c9 := Bool.eq_false_iff.mpr c9
      subst c9
      have H1 : (some (t112, t113)) = some (r1, r2) := by rw [if_neg (show ¬ (false = true) by decide)] at H; exact H
      clear H
      have H := H1
      clear H1
      simp only [Option.some.injEq, Prod.mk.injEq] at H
      obtain ⟨rfl, rfl⟩ := H
      go_enter Try.func11, Try.ntmps11
      go_wp2_with (first | ((with_reducible refine gate_callee (f := 25) rfl ?_); refine goesL_ (some 15) rfl rfl Try.func25 (by kernel_rfl) rfl #[.int .i64 a0, .int .i64 a1] rfl (by (try simp only [List.map_toArray, List.map_cons, List.map_nil]); first | done | rfl | (simp only [List.length_drop, List.length_take]; rfl)) ?_; (with_reducible refine (qfix_both.calls a0 a1 t105 t106 false _ A3.out).mono ?_); rintro e w12 ⟨rfl, hb⟩; refine ⟨_, rfl, ?_⟩; have n0_ := Aside0.mk (below_step (by repeat (first | (with_reducible first | exact HB.out | apply below_alloc | apply pw_below_drewN | apply below_drew1) | exact HB.out)) hb); clear HB; have HB := n0_; clear n0_; (try clear hb); (try clear hb2); (try clear hk); (try clear hi)) | ((with_reducible refine gate_callee (f := 27) rfl ?_); refine goesL_ (some 21) rfl rfl Try.func27 (by kernel_rfl) rfl #[.int .i64 t105] rfl (by (try simp only [List.map_toArray, List.map_cons, List.map_nil]); first | done | rfl | (simp only [List.length_drop, List.length_take]; rfl)) ?_; (with_reducible refine (qfix_size.calls t105 t108 _ A4.out).mono ?_); rintro e w' ⟨rfl, ⟨nd, rfl⟩⟩; refine ⟨_, rfl, ?_⟩) | ((with_reducible refine gate_callee (f := 27) rfl ?_); refine goesL_ (some 23) rfl rfl Try.func27 (by kernel_rfl) rfl #[.int .i64 t106] rfl (by (try simp only [List.map_toArray, List.map_cons, List.map_nil]); first | done | rfl | (simp only [List.length_drop, List.length_take]; rfl)) ?_; (with_reducible refine (qfix_size.calls t106 t109 _ A5.out).mono ?_); rintro e w' ⟨rfl, ⟨nd, rfl⟩⟩; refine ⟨_, rfl, ?_⟩) | ((with_reducible refine gate_callee (f := 26) rfl ?_); refine goesL_ (some 24) rfl rfl Try.func26 (by kernel_rfl) rfl #[.int .u64 t108, .int .u64 t109] rfl (by (try simp only [List.map_toArray, List.map_cons, List.map_nil]); first | done | rfl | (simp only [List.length_drop, List.length_take]; rfl)) ?_; (with_reducible refine (bits_Mul64.calls t108 t109 t110 t111 _ A6.out).mono ?_); rintro e w' ⟨rfl, ⟨nd, rfl⟩⟩; refine ⟨_, rfl, ?_⟩) | ((with_reducible refine gate_callee (f := 28) rfl ?_); refine goesL_ (some 57) rfl rfl Try.func28 (by kernel_rfl) rfl #[.int .u64 (t110 / 16777216), .int .u64 (IntKind.u64.wrap ((Go.bits .or .u64 (t111 / 16777216) (IntKind.u64.wrap (t110 * 1099511627776))) + 1)), .bool ((decide (t105 < 0)) != (decide (t106 < 0)))] rfl (by (try simp only [List.map_toArray, List.map_cons, List.map_nil]); first | done | rfl | (simp only [List.length_drop, List.length_take]; rfl)) ?_; (with_reducible refine (qfix_signed.calls (t110 / 16777216) (IntKind.u64.wrap ((Go.bits .or .u64 (t111 / 16777216) (IntKind.u64.wrap (t110 * 1099511627776))) + 1)) ((decide (t105 < 0)) != (decide (t106 < 0))) t112 t113 _ A8.out).mono ?_); rintro e w13 ⟨rfl, hb⟩; refine ⟨_, rfl, ?_⟩; have n0_ := Aside0.mk (below_step (by repeat (first | (with_reducible first | exact HB.out | apply below_alloc | apply pw_below_drewN | apply below_drew1) | exact HB.out)) hb); clear HB; have HB := n0_; clear n0_; (try clear hb); (try clear hb2); (try clear hk); (try clear hi)))
      go_ret2
      exact ⟨by first | rfl | (simp [errW_none, errW_some] <;> rfl) | (simp [*, errW_none, errW_some] <;> rfl), by repeat (first | (with_reducible first | exact HB.out | apply below_alloc | apply pw_below_drewN | apply below_drew1) | exact HB.out)⟩
  · rw [if_neg c7] at H
    have c7b0 : decide (8388608 < (Go.bits .and .u64 t111 16777215)) = false := decide_eq_false c7
    clear c7
    by_cases c14 : (Go.bits .and .u64 t111 16777215) = 8388608
    · rw [if_pos c14] at H
      have c14b0 : ((Go.bits .and .u64 t111 16777215) == 8388608) = true := beq_iff_eq.mpr c14
      have c14b1 : ((Go.bits .and .u64 t111 16777215) != 8388608) = false := bne_eq_false_iff_eq.mpr c14
      clear c14
      by_cases c15 : (Go.bits .and .u64 (Go.bits .or .u64 (t111 / 16777216) (IntKind.u64.wrap (t110 * 1099511627776))) 1) = 1
      · rw [if_pos c15] at H
        have c15b0 : ((Go.bits .and .u64 (Go.bits .or .u64 (t111 / 16777216) (IntKind.u64.wrap (t110 * 1099511627776))) 1) == 1) = true := beq_iff_eq.mpr c15
        have c15b1 : ((Go.bits .and .u64 (Go.bits .or .u64 (t111 / 16777216) (IntKind.u64.wrap (t110 * 1099511627776))) 1) != 1) = false := bne_eq_false_iff_eq.mpr c15
        clear c15
        replace H := Option.bind_eq_some_iff.mp H
        obtain ⟨⟨t114, t115⟩, A160, H⟩ := H
        replace H : (if t107 = true then (some (t114, true)) else (some (t114, t115))) = some (r1, r2) := H
        have A16 := Aside0.mk A160
        clear A160
        by_cases c17 : t107 = true
        · subst c17
          have H1 : (some (t114, true)) = some (r1, r2) := by rw [if_pos rfl] at H; exact H
          clear H
          have H := H1
          clear H1
          simp only [Option.some.injEq, Prod.mk.injEq] at H
          obtain ⟨rfl, rfl⟩ := H
          go_enter Try.func11, Try.ntmps11
          go_wp2_with (first | ((with_reducible refine gate_callee (f := 25) rfl ?_); refine goesL_ (some 15) rfl rfl Try.func25 (by kernel_rfl) rfl #[.int .i64 a0, .int .i64 a1] rfl (by (try simp only [List.map_toArray, List.map_cons, List.map_nil]); first | done | rfl | (simp only [List.length_drop, List.length_take]; rfl)) ?_; (with_reducible refine (qfix_both.calls a0 a1 t105 t106 true _ A3.out).mono ?_); rintro e w18 ⟨rfl, hb⟩; refine ⟨_, rfl, ?_⟩; have n0_ := Aside0.mk (below_step (by repeat (first | (with_reducible first | exact HB.out | apply below_alloc | apply pw_below_drewN | apply below_drew1) | exact HB.out)) hb); clear HB; have HB := n0_; clear n0_; (try clear hb); (try clear hb2); (try clear hk); (try clear hi)) | ((with_reducible refine gate_callee (f := 27) rfl ?_); refine goesL_ (some 21) rfl rfl Try.func27 (by kernel_rfl) rfl #[.int .i64 t105] rfl (by (try simp only [List.map_toArray, List.map_cons, List.map_nil]); first | done | rfl | (simp only [List.length_drop, List.length_take]; rfl)) ?_; (with_reducible refine (qfix_size.calls t105 t108 _ A4.out).mono ?_); rintro e w' ⟨rfl, ⟨nd, rfl⟩⟩; refine ⟨_, rfl, ?_⟩) | ((with_reducible refine gate_callee (f := 27) rfl ?_); refine goesL_ (some 23) rfl rfl Try.func27 (by kernel_rfl) rfl #[.int .i64 t106] rfl (by (try simp only [List.map_toArray, List.map_cons, List.map_nil]); first | done | rfl | (simp only [List.length_drop, List.length_take]; rfl)) ?_; (with_reducible refine (qfix_size.calls t106 t109 _ A5.out).mono ?_); rintro e w' ⟨rfl, ⟨nd, rfl⟩⟩; refine ⟨_, rfl, ?_⟩) | ((with_reducible refine gate_callee (f := 26) rfl ?_); refine goesL_ (some 24) rfl rfl Try.func26 (by kernel_rfl) rfl #[.int .u64 t108, .int .u64 t109] rfl (by (try simp only [List.map_toArray, List.map_cons, List.map_nil]); first | done | rfl | (simp only [List.length_drop, List.length_take]; rfl)) ?_; (with_reducible refine (bits_Mul64.calls t108 t109 t110 t111 _ A6.out).mono ?_); rintro e w' ⟨rfl, ⟨nd, rfl⟩⟩; refine ⟨_, rfl, ?_⟩) | ((with_reducible refine gate_callee (f := 28) rfl ?_); refine goesL_ (some 57) rfl rfl Try.func28 (by kernel_rfl) rfl #[.int .u64 (t110 / 16777216), .int .u64 (IntKind.u64.wrap ((Go.bits .or .u64 (t111 / 16777216) (IntKind.u64.wrap (t110 * 1099511627776))) + 1)), .bool ((decide (t105 < 0)) != (decide (t106 < 0)))] rfl (by (try simp only [List.map_toArray, List.map_cons, List.map_nil]); first | done | rfl | (simp only [List.length_drop, List.length_take]; rfl)) ?_; (with_reducible refine (qfix_signed.calls (t110 / 16777216) (IntKind.u64.wrap ((Go.bits .or .u64 (t111 / 16777216) (IntKind.u64.wrap (t110 * 1099511627776))) + 1)) ((decide (t105 < 0)) != (decide (t106 < 0))) t114 t115 _ A16.out).mono ?_); rintro e w19 ⟨rfl, hb⟩; refine ⟨_, rfl, ?_⟩; have n0_ := Aside0.mk (below_step (by repeat (first | (with_reducible first | exact HB.out | apply below_alloc | apply pw_below_drewN | apply below_drew1) | exact HB.out)) hb); clear HB; have HB := n0_; clear n0_; (try clear hb); (try clear hb2); (try clear hk); (try clear hi)))
          go_ret2
          exact ⟨by first | rfl | (simp [errW_none, errW_some] <;> rfl) | (simp [*, errW_none, errW_some] <;> rfl), by repeat (first | (with_reducible first | exact HB.out | apply below_alloc | apply pw_below_drewN | apply below_drew1) | exact HB.out)⟩
        · replace c17 := Bool.eq_false_iff.mpr c17
          subst c17
          have H1 : (some (t114, t115)) = some (r1, r2) := by rw [if_neg (show ¬ (false = true) by decide)] at H; exact H
          clear H
          have H := H1
          clear H1
          simp only [Option.some.injEq, Prod.mk.injEq] at H
          obtain ⟨rfl, rfl⟩ := H
          go_enter Try.func11, Try.ntmps11
          go_wp2_with (first | ((with_reducible refine gate_callee (f := 25) rfl ?_); refine goesL_ (some 15) rfl rfl Try.func25 (by kernel_rfl) rfl #[.int .i64 a0, .int .i64 a1] rfl (by (try simp only [List.map_toArray, List.map_cons, List.map_nil]); first | done | rfl | (simp only [List.length_drop, List.length_take]; rfl)) ?_; (with_reducible refine (qfix_both.calls a0 a1 t105 t106 false _ A3.out).mono ?_); rintro e w20 ⟨rfl, hb⟩; refine ⟨_, rfl, ?_⟩; have n0_ := Aside0.mk (below_step (by repeat (first | (with_reducible first | exact HB.out | apply below_alloc | apply pw_below_drewN | apply below_drew1) | exact HB.out)) hb); clear HB; have HB := n0_; clear n0_; (try clear hb); (try clear hb2); (try clear hk); (try clear hi)) | ((with_reducible refine gate_callee (f := 27) rfl ?_); refine goesL_ (some 21) rfl rfl Try.func27 (by kernel_rfl) rfl #[.int .i64 t105] rfl (by (try simp only [List.map_toArray, List.map_cons, List.map_nil]); first | done | rfl | (simp only [List.length_drop, List.length_take]; rfl)) ?_; (with_reducible refine (qfix_size.calls t105 t108 _ A4.out).mono ?_); rintro e w' ⟨rfl, ⟨nd, rfl⟩⟩; refine ⟨_, rfl, ?_⟩) | ((with_reducible refine gate_callee (f := 27) rfl ?_); refine goesL_ (some 23) rfl rfl Try.func27 (by kernel_rfl) rfl #[.int .i64 t106] rfl (by (try simp only [List.map_toArray, List.map_cons, List.map_nil]); first | done | rfl | (simp only [List.length_drop, List.length_take]; rfl)) ?_; (with_reducible refine (qfix_size.calls t106 t109 _ A5.out).mono ?_); rintro e w' ⟨rfl, ⟨nd, rfl⟩⟩; refine ⟨_, rfl, ?_⟩) | ((with_reducible refine gate_callee (f := 26) rfl ?_); refine goesL_ (some 24) rfl rfl Try.func26 (by kernel_rfl) rfl #[.int .u64 t108, .int .u64 t109] rfl (by (try simp only [List.map_toArray, List.map_cons, List.map_nil]); first | done | rfl | (simp only [List.length_drop, List.length_take]; rfl)) ?_; (with_reducible refine (bits_Mul64.calls t108 t109 t110 t111 _ A6.out).mono ?_); rintro e w' ⟨rfl, ⟨nd, rfl⟩⟩; refine ⟨_, rfl, ?_⟩) | ((with_reducible refine gate_callee (f := 28) rfl ?_); refine goesL_ (some 57) rfl rfl Try.func28 (by kernel_rfl) rfl #[.int .u64 (t110 / 16777216), .int .u64 (IntKind.u64.wrap ((Go.bits .or .u64 (t111 / 16777216) (IntKind.u64.wrap (t110 * 1099511627776))) + 1)), .bool ((decide (t105 < 0)) != (decide (t106 < 0)))] rfl (by (try simp only [List.map_toArray, List.map_cons, List.map_nil]); first | done | rfl | (simp only [List.length_drop, List.length_take]; rfl)) ?_; (with_reducible refine (qfix_signed.calls (t110 / 16777216) (IntKind.u64.wrap ((Go.bits .or .u64 (t111 / 16777216) (IntKind.u64.wrap (t110 * 1099511627776))) + 1)) ((decide (t105 < 0)) != (decide (t106 < 0))) t114 t115 _ A16.out).mono ?_); rintro e w21 ⟨rfl, hb⟩; refine ⟨_, rfl, ?_⟩; have n0_ := Aside0.mk (below_step (by repeat (first | (with_reducible first | exact HB.out | apply below_alloc | apply pw_below_drewN | apply below_drew1) | exact HB.out)) hb); clear HB; have HB := n0_; clear n0_; (try clear hb); (try clear hb2); (try clear hk); (try clear hi)))
          go_ret2
          exact ⟨by first | rfl | (simp [errW_none, errW_some] <;> rfl) | (simp [*, errW_none, errW_some] <;> rfl), by repeat (first | (with_reducible first | exact HB.out | apply below_alloc | apply pw_below_drewN | apply below_drew1) | exact HB.out)⟩
      · rw [if_neg c15] at H
        have c15b0 : ((Go.bits .and .u64 (Go.bits .or .u64 (t111 / 16777216) (IntKind.u64.wrap (t110 * 1099511627776))) 1) == 1) = false := beq_eq_false_iff_ne.mpr c15
        have c15b1 : ((Go.bits .and .u64 (Go.bits .or .u64 (t111 / 16777216) (IntKind.u64.wrap (t110 * 1099511627776))) 1) != 1) = true := bne_iff_ne.mpr c15
        replace H := Option.bind_eq_some_iff.mp H
        obtain ⟨⟨t116, t117⟩, A220, H⟩ := H
        replace H : (if t107 = true then (some (t116, true)) else (some (t116, t117))) = some (r1, r2) := H
        have A22 := Aside0.mk A220
        clear A220
        by_cases c23 : t107 = true
        · subst c23
          have H1 : (some (t116, true)) = some (r1, r2) := by rw [if_pos rfl] at H; exact H
          clear H
          have H := H1
          clear H1
          simp only [Option.some.injEq, Prod.mk.injEq] at H
          obtain ⟨rfl, rfl⟩ := H
          go_enter Try.func11, Try.ntmps11
          go_wp2_with (first | ((with_reducible refine gate_callee (f := 25) rfl ?_); refine goesL_ (some 15) rfl rfl Try.func25 (by kernel_rfl) rfl #[.int .i64 a0, .int .i64 a1] rfl (by (try simp only [List.map_toArray, List.map_cons, List.map_nil]); first | done | rfl | (simp only [List.length_drop, List.length_take]; rfl)) ?_; (with_reducible refine (qfix_both.calls a0 a1 t105 t106 true _ A3.out).mono ?_); rintro e w24 ⟨rfl, hb⟩; refine ⟨_, rfl, ?_⟩; have n0_ := Aside0.mk (below_step (by repeat (first | (with_reducible first | exact HB.out | apply below_alloc | apply pw_below_drewN | apply below_drew1) | exact HB.out)) hb); clear HB; have HB := n0_; clear n0_; (try clear hb); (try clear hb2); (try clear hk); (try clear hi)) | ((with_reducible refine gate_callee (f := 27) rfl ?_); refine goesL_ (some 21) rfl rfl Try.func27 (by kernel_rfl) rfl #[.int .i64 t105] rfl (by (try simp only [List.map_toArray, List.map_cons, List.map_nil]); first | done | rfl | (simp only [List.length_drop, List.length_take]; rfl)) ?_; (with_reducible refine (qfix_size.calls t105 t108 _ A4.out).mono ?_); rintro e w' ⟨rfl, ⟨nd, rfl⟩⟩; refine ⟨_, rfl, ?_⟩) | ((with_reducible refine gate_callee (f := 27) rfl ?_); refine goesL_ (some 23) rfl rfl Try.func27 (by kernel_rfl) rfl #[.int .i64 t106] rfl (by (try simp only [List.map_toArray, List.map_cons, List.map_nil]); first | done | rfl | (simp only [List.length_drop, List.length_take]; rfl)) ?_; (with_reducible refine (qfix_size.calls t106 t109 _ A5.out).mono ?_); rintro e w' ⟨rfl, ⟨nd, rfl⟩⟩; refine ⟨_, rfl, ?_⟩) | ((with_reducible refine gate_callee (f := 26) rfl ?_); refine goesL_ (some 24) rfl rfl Try.func26 (by kernel_rfl) rfl #[.int .u64 t108, .int .u64 t109] rfl (by (try simp only [List.map_toArray, List.map_cons, List.map_nil]); first | done | rfl | (simp only [List.length_drop, List.length_take]; rfl)) ?_; (with_reducible refine (bits_Mul64.calls t108 t109 t110 t111 _ A6.out).mono ?_); rintro e w' ⟨rfl, ⟨nd, rfl⟩⟩; refine ⟨_, rfl, ?_⟩) | ((with_reducible refine gate_callee (f := 28) rfl ?_); refine goesL_ (some 57) rfl rfl Try.func28 (by kernel_rfl) rfl #[.int .u64 (t110 / 16777216), .int .u64 (Go.bits .or .u64 (t111 / 16777216) (IntKind.u64.wrap (t110 * 1099511627776))), .bool ((decide (t105 < 0)) != (decide (t106 < 0)))] rfl (by (try simp only [List.map_toArray, List.map_cons, List.map_nil]); first | done | rfl | (simp only [List.length_drop, List.length_take]; rfl)) ?_; (with_reducible refine (qfix_signed.calls (t110 / 16777216) (Go.bits .or .u64 (t111 / 16777216) (IntKind.u64.wrap (t110 * 1099511627776))) ((decide (t105 < 0)) != (decide (t106 < 0))) t116 t117 _ A22.out).mono ?_); rintro e w25 ⟨rfl, hb⟩; refine ⟨_, rfl, ?_⟩; have n0_ := Aside0.mk (below_step (by repeat (first | (with_reducible first | exact HB.out | apply below_alloc | apply pw_below_drewN | apply below_drew1) | exact HB.out)) hb); clear HB; have HB := n0_; clear n0_; (try clear hb); (try clear hb2); (try clear hk); (try clear hi)))
          go_ret2
          exact ⟨by first | rfl | (simp [errW_none, errW_some] <;> rfl) | (simp [*, errW_none, errW_some] <;> rfl), by repeat (first | (with_reducible first | exact HB.out | apply below_alloc | apply pw_below_drewN | apply below_drew1) | exact HB.out)⟩
        · replace c23 := Bool.eq_false_iff.mpr c23
          subst c23
          have H1 : (some (t116, t117)) = some (r1, r2) := by rw [if_neg (show ¬ (false = true) by decide)] at H; exact H
          clear H
          have H := H1
          clear H1
          simp only [Option.some.injEq, Prod.mk.injEq] at H
          obtain ⟨rfl, rfl⟩ := H
          go_enter Try.func11, Try.ntmps11
          go_wp2_with (first | ((with_reducible refine gate_callee (f := 25) rfl ?_); refine goesL_ (some 15) rfl rfl Try.func25 (by kernel_rfl) rfl #[.int .i64 a0, .int .i64 a1] rfl (by (try simp only [List.map_toArray, List.map_cons, List.map_nil]); first | done | rfl | (simp only [List.length_drop, List.length_take]; rfl)) ?_; (with_reducible refine (qfix_both.calls a0 a1 t105 t106 false _ A3.out).mono ?_); rintro e w26 ⟨rfl, hb⟩; refine ⟨_, rfl, ?_⟩; have n0_ := Aside0.mk (below_step (by repeat (first | (with_reducible first | exact HB.out | apply below_alloc | apply pw_below_drewN | apply below_drew1) | exact HB.out)) hb); clear HB; have HB := n0_; clear n0_; (try clear hb); (try clear hb2); (try clear hk); (try clear hi)) | ((with_reducible refine gate_callee (f := 27) rfl ?_); refine goesL_ (some 21) rfl rfl Try.func27 (by kernel_rfl) rfl #[.int .i64 t105] rfl (by (try simp only [List.map_toArray, List.map_cons, List.map_nil]); first | done | rfl | (simp only [List.length_drop, List.length_take]; rfl)) ?_; (with_reducible refine (qfix_size.calls t105 t108 _ A4.out).mono ?_); rintro e w' ⟨rfl, ⟨nd, rfl⟩⟩; refine ⟨_, rfl, ?_⟩) | ((with_reducible refine gate_callee (f := 27) rfl ?_); refine goesL_ (some 23) rfl rfl Try.func27 (by kernel_rfl) rfl #[.int .i64 t106] rfl (by (try simp only [List.map_toArray, List.map_cons, List.map_nil]); first | done | rfl | (simp only [List.length_drop, List.length_take]; rfl)) ?_; (with_reducible refine (qfix_size.calls t106 t109 _ A5.out).mono ?_); rintro e w' ⟨rfl, ⟨nd, rfl⟩⟩; refine ⟨_, rfl, ?_⟩) | ((with_reducible refine gate_callee (f := 26) rfl ?_); refine goesL_ (some 24) rfl rfl Try.func26 (by kernel_rfl) rfl #[.int .u64 t108, .int .u64 t109] rfl (by (try simp only [List.map_toArray, List.map_cons, List.map_nil]); first | done | rfl | (simp only [List.length_drop, List.length_take]; rfl)) ?_; (with_reducible refine (bits_Mul64.calls t108 t109 t110 t111 _ A6.out).mono ?_); rintro e w' ⟨rfl, ⟨nd, rfl⟩⟩; refine ⟨_, rfl, ?_⟩) | ((with_reducible refine gate_callee (f := 28) rfl ?_); refine goesL_ (some 57) rfl rfl Try.func28 (by kernel_rfl) rfl #[.int .u64 (t110 / 16777216), .int .u64 (Go.bits .or .u64 (t111 / 16777216) (IntKind.u64.wrap (t110 * 1099511627776))), .bool ((decide (t105 < 0)) != (decide (t106 < 0)))] rfl (by (try simp only [List.map_toArray, List.map_cons, List.map_nil]); first | done | rfl | (simp only [List.length_drop, List.length_take]; rfl)) ?_; (with_reducible refine (qfix_signed.calls (t110 / 16777216) (Go.bits .or .u64 (t111 / 16777216) (IntKind.u64.wrap (t110 * 1099511627776))) ((decide (t105 < 0)) != (decide (t106 < 0))) t116 t117 _ A22.out).mono ?_); rintro e w27 ⟨rfl, hb⟩; refine ⟨_, rfl, ?_⟩; have n0_ := Aside0.mk (below_step (by repeat (first | (with_reducible first | exact HB.out | apply below_alloc | apply pw_below_drewN | apply below_drew1) | exact HB.out)) hb); clear HB; have HB := n0_; clear n0_; (try clear hb); (try clear hb2); (try clear hk); (try clear hi)))
          go_ret2
          exact ⟨by first | rfl | (simp [errW_none, errW_some] <;> rfl) | (simp [*, errW_none, errW_some] <;> rfl), by repeat (first | (with_reducible first | exact HB.out | apply below_alloc | apply pw_below_drewN | apply below_drew1) | exact HB.out)⟩
    · rw [if_neg c14] at H
      have c14b0 : ((Go.bits .and .u64 t111 16777215) == 8388608) = false := beq_eq_false_iff_ne.mpr c14
      have c14b1 : ((Go.bits .and .u64 t111 16777215) != 8388608) = true := bne_iff_ne.mpr c14
      replace H := Option.bind_eq_some_iff.mp H
      obtain ⟨⟨t118, t119⟩, A280, H⟩ := H
      replace H : (if t107 = true then (some (t118, true)) else (some (t118, t119))) = some (r1, r2) := H
      have A28 := Aside0.mk A280
      clear A280
      by_cases c29 : t107 = true
      · subst c29
        have H1 : (some (t118, true)) = some (r1, r2) := by rw [if_pos rfl] at H; exact H
        clear H
        have H := H1
        clear H1
        simp only [Option.some.injEq, Prod.mk.injEq] at H
        obtain ⟨rfl, rfl⟩ := H
        go_enter Try.func11, Try.ntmps11
        go_wp2_with (first | ((with_reducible refine gate_callee (f := 25) rfl ?_); refine goesL_ (some 15) rfl rfl Try.func25 (by kernel_rfl) rfl #[.int .i64 a0, .int .i64 a1] rfl (by (try simp only [List.map_toArray, List.map_cons, List.map_nil]); first | done | rfl | (simp only [List.length_drop, List.length_take]; rfl)) ?_; (with_reducible refine (qfix_both.calls a0 a1 t105 t106 true _ A3.out).mono ?_); rintro e w30 ⟨rfl, hb⟩; refine ⟨_, rfl, ?_⟩; have n0_ := Aside0.mk (below_step (by repeat (first | (with_reducible first | exact HB.out | apply below_alloc | apply pw_below_drewN | apply below_drew1) | exact HB.out)) hb); clear HB; have HB := n0_; clear n0_; (try clear hb); (try clear hb2); (try clear hk); (try clear hi)) | ((with_reducible refine gate_callee (f := 27) rfl ?_); refine goesL_ (some 21) rfl rfl Try.func27 (by kernel_rfl) rfl #[.int .i64 t105] rfl (by (try simp only [List.map_toArray, List.map_cons, List.map_nil]); first | done | rfl | (simp only [List.length_drop, List.length_take]; rfl)) ?_; (with_reducible refine (qfix_size.calls t105 t108 _ A4.out).mono ?_); rintro e w' ⟨rfl, ⟨nd, rfl⟩⟩; refine ⟨_, rfl, ?_⟩) | ((with_reducible refine gate_callee (f := 27) rfl ?_); refine goesL_ (some 23) rfl rfl Try.func27 (by kernel_rfl) rfl #[.int .i64 t106] rfl (by (try simp only [List.map_toArray, List.map_cons, List.map_nil]); first | done | rfl | (simp only [List.length_drop, List.length_take]; rfl)) ?_; (with_reducible refine (qfix_size.calls t106 t109 _ A5.out).mono ?_); rintro e w' ⟨rfl, ⟨nd, rfl⟩⟩; refine ⟨_, rfl, ?_⟩) | ((with_reducible refine gate_callee (f := 26) rfl ?_); refine goesL_ (some 24) rfl rfl Try.func26 (by kernel_rfl) rfl #[.int .u64 t108, .int .u64 t109] rfl (by (try simp only [List.map_toArray, List.map_cons, List.map_nil]); first | done | rfl | (simp only [List.length_drop, List.length_take]; rfl)) ?_; (with_reducible refine (bits_Mul64.calls t108 t109 t110 t111 _ A6.out).mono ?_); rintro e w' ⟨rfl, ⟨nd, rfl⟩⟩; refine ⟨_, rfl, ?_⟩) | ((with_reducible refine gate_callee (f := 28) rfl ?_); refine goesL_ (some 57) rfl rfl Try.func28 (by kernel_rfl) rfl #[.int .u64 (t110 / 16777216), .int .u64 (Go.bits .or .u64 (t111 / 16777216) (IntKind.u64.wrap (t110 * 1099511627776))), .bool ((decide (t105 < 0)) != (decide (t106 < 0)))] rfl (by (try simp only [List.map_toArray, List.map_cons, List.map_nil]); first | done | rfl | (simp only [List.length_drop, List.length_take]; rfl)) ?_; (with_reducible refine (qfix_signed.calls (t110 / 16777216) (Go.bits .or .u64 (t111 / 16777216) (IntKind.u64.wrap (t110 * 1099511627776))) ((decide (t105 < 0)) != (decide (t106 < 0))) t118 t119 _ A28.out).mono ?_); rintro e w31 ⟨rfl, hb⟩; refine ⟨_, rfl, ?_⟩; have n0_ := Aside0.mk (below_step (by repeat (first | (with_reducible first | exact HB.out | apply below_alloc | apply pw_below_drewN | apply below_drew1) | exact HB.out)) hb); clear HB; have HB := n0_; clear n0_; (try clear hb); (try clear hb2); (try clear hk); (try clear hi)))
        go_ret2
        exact ⟨by first | rfl | (simp [errW_none, errW_some] <;> rfl) | (simp [*, errW_none, errW_some] <;> rfl), by repeat (first | (with_reducible first | exact HB.out | apply below_alloc | apply pw_below_drewN | apply below_drew1) | exact HB.out)⟩
      · replace c29 := Bool.eq_false_iff.mpr c29
        subst c29
        have H1 : (some (t118, t119)) = some (r1, r2) := by rw [if_neg (show ¬ (false = true) by decide)] at H; exact H
        clear H
        have H := H1
        clear H1
        simp only [Option.some.injEq, Prod.mk.injEq] at H
        obtain ⟨rfl, rfl⟩ := H
        go_enter Try.func11, Try.ntmps11
        go_wp2_with (first | ((with_reducible refine gate_callee (f := 25) rfl ?_); refine goesL_ (some 15) rfl rfl Try.func25 (by kernel_rfl) rfl #[.int .i64 a0, .int .i64 a1] rfl (by (try simp only [List.map_toArray, List.map_cons, List.map_nil]); first | done | rfl | (simp only [List.length_drop, List.length_take]; rfl)) ?_; (with_reducible refine (qfix_both.calls a0 a1 t105 t106 false _ A3.out).mono ?_); rintro e w32 ⟨rfl, hb⟩; refine ⟨_, rfl, ?_⟩; have n0_ := Aside0.mk (below_step (by repeat (first | (with_reducible first | exact HB.out | apply below_alloc | apply pw_below_drewN | apply below_drew1) | exact HB.out)) hb); clear HB; have HB := n0_; clear n0_; (try clear hb); (try clear hb2); (try clear hk); (try clear hi)) | ((with_reducible refine gate_callee (f := 27) rfl ?_); refine goesL_ (some 21) rfl rfl Try.func27 (by kernel_rfl) rfl #[.int .i64 t105] rfl (by (try simp only [List.map_toArray, List.map_cons, List.map_nil]); first | done | rfl | (simp only [List.length_drop, List.length_take]; rfl)) ?_; (with_reducible refine (qfix_size.calls t105 t108 _ A4.out).mono ?_); rintro e w' ⟨rfl, ⟨nd, rfl⟩⟩; refine ⟨_, rfl, ?_⟩) | ((with_reducible refine gate_callee (f := 27) rfl ?_); refine goesL_ (some 23) rfl rfl Try.func27 (by kernel_rfl) rfl #[.int .i64 t106] rfl (by (try simp only [List.map_toArray, List.map_cons, List.map_nil]); first | done | rfl | (simp only [List.length_drop, List.length_take]; rfl)) ?_; (with_reducible refine (qfix_size.calls t106 t109 _ A5.out).mono ?_); rintro e w' ⟨rfl, ⟨nd, rfl⟩⟩; refine ⟨_, rfl, ?_⟩) | ((with_reducible refine gate_callee (f := 26) rfl ?_); refine goesL_ (some 24) rfl rfl Try.func26 (by kernel_rfl) rfl #[.int .u64 t108, .int .u64 t109] rfl (by (try simp only [List.map_toArray, List.map_cons, List.map_nil]); first | done | rfl | (simp only [List.length_drop, List.length_take]; rfl)) ?_; (with_reducible refine (bits_Mul64.calls t108 t109 t110 t111 _ A6.out).mono ?_); rintro e w' ⟨rfl, ⟨nd, rfl⟩⟩; refine ⟨_, rfl, ?_⟩) | ((with_reducible refine gate_callee (f := 28) rfl ?_); refine goesL_ (some 57) rfl rfl Try.func28 (by kernel_rfl) rfl #[.int .u64 (t110 / 16777216), .int .u64 (Go.bits .or .u64 (t111 / 16777216) (IntKind.u64.wrap (t110 * 1099511627776))), .bool ((decide (t105 < 0)) != (decide (t106 < 0)))] rfl (by (try simp only [List.map_toArray, List.map_cons, List.map_nil]); first | done | rfl | (simp only [List.length_drop, List.length_take]; rfl)) ?_; (with_reducible refine (qfix_signed.calls (t110 / 16777216) (Go.bits .or .u64 (t111 / 16777216) (IntKind.u64.wrap (t110 * 1099511627776))) ((decide (t105 < 0)) != (decide (t106 < 0))) t118 t119 _ A28.out).mono ?_); rintro e w33 ⟨rfl, hb⟩; refine ⟨_, rfl, ?_⟩; have n0_ := Aside0.mk (below_step (by repeat (first | (with_reducible first | exact HB.out | apply below_alloc | apply pw_below_drewN | apply below_drew1) | exact HB.out)) hb); clear HB; have HB := n0_; clear n0_; (try clear hb); (try clear hb2); (try clear hk); (try clear hi)))
        go_ret2
        exact ⟨by first | rfl | (simp [errW_none, errW_some] <;> rfl) | (simp [*, errW_none, errW_some] <;> rfl), by repeat (first | (with_reducible first | exact HB.out | apply below_alloc | apply pw_below_drewN | apply below_drew1) | exact HB.out)⟩

/-! ### bits_Len64: off the shelf -/
def bits_Len64.f (a0 : Int) : Option (Int) := if 0 ≤ a0 ∧ a0 < 18446744073709551616 then some (Lib.bitLen a0.toNat : Int) else none

/-! ### bits_LeadingZeros64: off the shelf -/
def bits_LeadingZeros64.f (a0 : Int) : Option (Int) := if 0 ≤ a0 ∧ a0 < 18446744073709551616 then some (64 - (Lib.bitLen a0.toNat : Int)) else none
theorem bits_LeadingZeros64.calls (a0 : Int) (r : Int) (w : World) (h : bits_LeadingZeros64.f a0 = some r) :
    Calls Try.prog 36 #[.int .u64 a0] w fun e w' => e = .returned (.int .i64 r) ∧ Drawn0 w w' := by
  unfold bits_LeadingZeros64.f at h
  by_cases hb : 0 ≤ a0 ∧ a0 < 18446744073709551616
  · rw [if_pos hb] at h
    simp only [Option.some.injEq] at h
    subst h
    refine (Try.bits_LeadingZeros64 a0 w hb.1 (by omega)).mono ?_
    rintro e w' ⟨rfl, rfl⟩
    exact ⟨rfl, Drawn0.refl _⟩
  · rw [if_neg hb] at h
    cases h

end Go.Proofs.Ytnihbplibmljlaa.PQ
