-- Laid by a program of this session's own (wip/print-patch.py over the kit's print), out of the translation; Lean checks it.
import Derived.Test.YtmjncjaalleblaaPQx0
import Derived.Test.YtmjncjaalleblaaPQx1
namespace Go.Proofs.Ytmjncjaalleblaa.PQ
open Go.RowKit Go.Proofs.YtmjncjaalleblaaW.PrintWords Go.Proofs.YtmjncjaalleblaaW.PrintLast Go.Proofs.YtmjncjaalleblaaW.PrintMore
attribute [local go_sem] max2_int min2_int max_two min_two max_three min_three max_four min_four   -- for this text's walks alone
set_option linter.unusedVariables false
set_option linter.unusedSimpArgs false

/-! ### qfix_Mul: function 25 -/
def qfix_Mul.f (a0 : Int) (a1 : Int) : Option (Int × Bool) := (qfix_both.f a0 a1).bind fun bt137 => ((qfix_size.f bt137.1).bind fun t140 => ((qfix_size.f bt137.2.1).bind fun t141 => ((bits_Mul64.f t140 t141).bind fun bt142 => (if (Go.bits .and .u64 bt142.2 16777215) > 8388608 then ((qfix_signed.f (bt142.1 / 16777216) (IntKind.u64.wrap ((Go.bits .or .u64 (bt142.2 / 16777216) (IntKind.u64.wrap (bt142.1 * 1099511627776))) + 1)) ((decide (bt137.1 < 0)) != (decide (bt137.2.1 < 0)))).bind fun bt144 => (if bt137.2.2 = true then (some (bt144.1, true)) else (some (bt144.1, bt144.2)))) else (if (Go.bits .and .u64 bt142.2 16777215) = 8388608 then (if (Go.bits .and .u64 (Go.bits .or .u64 (bt142.2 / 16777216) (IntKind.u64.wrap (bt142.1 * 1099511627776))) 1) = 1 then ((qfix_signed.f (bt142.1 / 16777216) (IntKind.u64.wrap ((Go.bits .or .u64 (bt142.2 / 16777216) (IntKind.u64.wrap (bt142.1 * 1099511627776))) + 1)) ((decide (bt137.1 < 0)) != (decide (bt137.2.1 < 0)))).bind fun bt146 => (if bt137.2.2 = true then (some (bt146.1, true)) else (some (bt146.1, bt146.2)))) else ((qfix_signed.f (bt142.1 / 16777216) (Go.bits .or .u64 (bt142.2 / 16777216) (IntKind.u64.wrap (bt142.1 * 1099511627776))) ((decide (bt137.1 < 0)) != (decide (bt137.2.1 < 0)))).bind fun bt148 => (if bt137.2.2 = true then (some (bt148.1, true)) else (some (bt148.1, bt148.2))))) else ((qfix_signed.f (bt142.1 / 16777216) (Go.bits .or .u64 (bt142.2 / 16777216) (IntKind.u64.wrap (bt142.1 * 1099511627776))) ((decide (bt137.1 < 0)) != (decide (bt137.2.1 < 0)))).bind fun bt150 => (if bt137.2.2 = true then (some (bt150.1, true)) else (some (bt150.1, bt150.2)))))))))
set_option maxHeartbeats 8000000 in
set_option maxRecDepth 100000 in
theorem qfix_Mul.calls (a0 : Int) (a1 : Int) (r1 : Int) (r2 : Bool) (w : World) (h : qfix_Mul.f a0 a1 = some (r1, r2)) :
    Calls Try.prog 25 #[.int .i64 a0, .int .i64 a1] w fun e w' => e = .returned (.tuple #[.int .i64 r1, .bool r2]) ∧ Below w.heap.size w w' := by
  have HB := Aside0.mk (Below.refl w.heap.size w)
  have H : ((qfix_both.f a0 a1).bind fun bt137 => ((qfix_size.f bt137.1).bind fun t140 => ((qfix_size.f bt137.2.1).bind fun t141 => ((bits_Mul64.f t140 t141).bind fun bt142 => (if (Go.bits .and .u64 bt142.2 16777215) > 8388608 then ((qfix_signed.f (bt142.1 / 16777216) (IntKind.u64.wrap ((Go.bits .or .u64 (bt142.2 / 16777216) (IntKind.u64.wrap (bt142.1 * 1099511627776))) + 1)) ((decide (bt137.1 < 0)) != (decide (bt137.2.1 < 0)))).bind fun bt144 => (if bt137.2.2 = true then (some (bt144.1, true)) else (some (bt144.1, bt144.2)))) else (if (Go.bits .and .u64 bt142.2 16777215) = 8388608 then (if (Go.bits .and .u64 (Go.bits .or .u64 (bt142.2 / 16777216) (IntKind.u64.wrap (bt142.1 * 1099511627776))) 1) = 1 then ((qfix_signed.f (bt142.1 / 16777216) (IntKind.u64.wrap ((Go.bits .or .u64 (bt142.2 / 16777216) (IntKind.u64.wrap (bt142.1 * 1099511627776))) + 1)) ((decide (bt137.1 < 0)) != (decide (bt137.2.1 < 0)))).bind fun bt146 => (if bt137.2.2 = true then (some (bt146.1, true)) else (some (bt146.1, bt146.2)))) else ((qfix_signed.f (bt142.1 / 16777216) (Go.bits .or .u64 (bt142.2 / 16777216) (IntKind.u64.wrap (bt142.1 * 1099511627776))) ((decide (bt137.1 < 0)) != (decide (bt137.2.1 < 0)))).bind fun bt148 => (if bt137.2.2 = true then (some (bt148.1, true)) else (some (bt148.1, bt148.2))))) else ((qfix_signed.f (bt142.1 / 16777216) (Go.bits .or .u64 (bt142.2 / 16777216) (IntKind.u64.wrap (bt142.1 * 1099511627776))) ((decide (bt137.1 < 0)) != (decide (bt137.2.1 < 0)))).bind fun bt150 => (if bt137.2.2 = true then (some (bt150.1, true)) else (some (bt150.1, bt150.2)))))))))) = some (r1, r2) := h
  clear h
  replace H := Option.bind_eq_some_iff.mp H
  obtain ⟨⟨t137, t138, t139⟩, A30, H⟩ := H
  replace H : ((qfix_size.f t137).bind fun t140 => ((qfix_size.f t138).bind fun t141 => ((bits_Mul64.f t140 t141).bind fun bt142 => (if (Go.bits .and .u64 bt142.2 16777215) > 8388608 then ((qfix_signed.f (bt142.1 / 16777216) (IntKind.u64.wrap ((Go.bits .or .u64 (bt142.2 / 16777216) (IntKind.u64.wrap (bt142.1 * 1099511627776))) + 1)) ((decide (t137 < 0)) != (decide (t138 < 0)))).bind fun bt144 => (if t139 = true then (some (bt144.1, true)) else (some (bt144.1, bt144.2)))) else (if (Go.bits .and .u64 bt142.2 16777215) = 8388608 then (if (Go.bits .and .u64 (Go.bits .or .u64 (bt142.2 / 16777216) (IntKind.u64.wrap (bt142.1 * 1099511627776))) 1) = 1 then ((qfix_signed.f (bt142.1 / 16777216) (IntKind.u64.wrap ((Go.bits .or .u64 (bt142.2 / 16777216) (IntKind.u64.wrap (bt142.1 * 1099511627776))) + 1)) ((decide (t137 < 0)) != (decide (t138 < 0)))).bind fun bt146 => (if t139 = true then (some (bt146.1, true)) else (some (bt146.1, bt146.2)))) else ((qfix_signed.f (bt142.1 / 16777216) (Go.bits .or .u64 (bt142.2 / 16777216) (IntKind.u64.wrap (bt142.1 * 1099511627776))) ((decide (t137 < 0)) != (decide (t138 < 0)))).bind fun bt148 => (if t139 = true then (some (bt148.1, true)) else (some (bt148.1, bt148.2))))) else ((qfix_signed.f (bt142.1 / 16777216) (Go.bits .or .u64 (bt142.2 / 16777216) (IntKind.u64.wrap (bt142.1 * 1099511627776))) ((decide (t137 < 0)) != (decide (t138 < 0)))).bind fun bt150 => (if t139 = true then (some (bt150.1, true)) else (some (bt150.1, bt150.2))))))))) = some (r1, r2) := H
  have A3 := Aside0.mk A30
  clear A30
  replace H := Option.bind_eq_some_iff.mp H
  obtain ⟨t140, A40, H⟩ := H
  replace H : ((qfix_size.f t138).bind fun t141 => ((bits_Mul64.f t140 t141).bind fun bt142 => (if (Go.bits .and .u64 bt142.2 16777215) > 8388608 then ((qfix_signed.f (bt142.1 / 16777216) (IntKind.u64.wrap ((Go.bits .or .u64 (bt142.2 / 16777216) (IntKind.u64.wrap (bt142.1 * 1099511627776))) + 1)) ((decide (t137 < 0)) != (decide (t138 < 0)))).bind fun bt144 => (if t139 = true then (some (bt144.1, true)) else (some (bt144.1, bt144.2)))) else (if (Go.bits .and .u64 bt142.2 16777215) = 8388608 then (if (Go.bits .and .u64 (Go.bits .or .u64 (bt142.2 / 16777216) (IntKind.u64.wrap (bt142.1 * 1099511627776))) 1) = 1 then ((qfix_signed.f (bt142.1 / 16777216) (IntKind.u64.wrap ((Go.bits .or .u64 (bt142.2 / 16777216) (IntKind.u64.wrap (bt142.1 * 1099511627776))) + 1)) ((decide (t137 < 0)) != (decide (t138 < 0)))).bind fun bt146 => (if t139 = true then (some (bt146.1, true)) else (some (bt146.1, bt146.2)))) else ((qfix_signed.f (bt142.1 / 16777216) (Go.bits .or .u64 (bt142.2 / 16777216) (IntKind.u64.wrap (bt142.1 * 1099511627776))) ((decide (t137 < 0)) != (decide (t138 < 0)))).bind fun bt148 => (if t139 = true then (some (bt148.1, true)) else (some (bt148.1, bt148.2))))) else ((qfix_signed.f (bt142.1 / 16777216) (Go.bits .or .u64 (bt142.2 / 16777216) (IntKind.u64.wrap (bt142.1 * 1099511627776))) ((decide (t137 < 0)) != (decide (t138 < 0)))).bind fun bt150 => (if t139 = true then (some (bt150.1, true)) else (some (bt150.1, bt150.2)))))))) = some (r1, r2) := H
  have A4 := Aside0.mk A40
  clear A40
  replace H := Option.bind_eq_some_iff.mp H
  obtain ⟨t141, A50, H⟩ := H
  replace H : ((bits_Mul64.f t140 t141).bind fun bt142 => (if (Go.bits .and .u64 bt142.2 16777215) > 8388608 then ((qfix_signed.f (bt142.1 / 16777216) (IntKind.u64.wrap ((Go.bits .or .u64 (bt142.2 / 16777216) (IntKind.u64.wrap (bt142.1 * 1099511627776))) + 1)) ((decide (t137 < 0)) != (decide (t138 < 0)))).bind fun bt144 => (if t139 = true then (some (bt144.1, true)) else (some (bt144.1, bt144.2)))) else (if (Go.bits .and .u64 bt142.2 16777215) = 8388608 then (if (Go.bits .and .u64 (Go.bits .or .u64 (bt142.2 / 16777216) (IntKind.u64.wrap (bt142.1 * 1099511627776))) 1) = 1 then ((qfix_signed.f (bt142.1 / 16777216) (IntKind.u64.wrap ((Go.bits .or .u64 (bt142.2 / 16777216) (IntKind.u64.wrap (bt142.1 * 1099511627776))) + 1)) ((decide (t137 < 0)) != (decide (t138 < 0)))).bind fun bt146 => (if t139 = true then (some (bt146.1, true)) else (some (bt146.1, bt146.2)))) else ((qfix_signed.f (bt142.1 / 16777216) (Go.bits .or .u64 (bt142.2 / 16777216) (IntKind.u64.wrap (bt142.1 * 1099511627776))) ((decide (t137 < 0)) != (decide (t138 < 0)))).bind fun bt148 => (if t139 = true then (some (bt148.1, true)) else (some (bt148.1, bt148.2))))) else ((qfix_signed.f (bt142.1 / 16777216) (Go.bits .or .u64 (bt142.2 / 16777216) (IntKind.u64.wrap (bt142.1 * 1099511627776))) ((decide (t137 < 0)) != (decide (t138 < 0)))).bind fun bt150 => (if t139 = true then (some (bt150.1, true)) else (some (bt150.1, bt150.2))))))) = some (r1, r2) := H
  have A5 := Aside0.mk A50
  clear A50
  replace H := Option.bind_eq_some_iff.mp H
  obtain ⟨⟨t142, t143⟩, A60, H⟩ := H
  replace H : (if (Go.bits .and .u64 t143 16777215) > 8388608 then ((qfix_signed.f (t142 / 16777216) (IntKind.u64.wrap ((Go.bits .or .u64 (t143 / 16777216) (IntKind.u64.wrap (t142 * 1099511627776))) + 1)) ((decide (t137 < 0)) != (decide (t138 < 0)))).bind fun bt144 => (if t139 = true then (some (bt144.1, true)) else (some (bt144.1, bt144.2)))) else (if (Go.bits .and .u64 t143 16777215) = 8388608 then (if (Go.bits .and .u64 (Go.bits .or .u64 (t143 / 16777216) (IntKind.u64.wrap (t142 * 1099511627776))) 1) = 1 then ((qfix_signed.f (t142 / 16777216) (IntKind.u64.wrap ((Go.bits .or .u64 (t143 / 16777216) (IntKind.u64.wrap (t142 * 1099511627776))) + 1)) ((decide (t137 < 0)) != (decide (t138 < 0)))).bind fun bt146 => (if t139 = true then (some (bt146.1, true)) else (some (bt146.1, bt146.2)))) else ((qfix_signed.f (t142 / 16777216) (Go.bits .or .u64 (t143 / 16777216) (IntKind.u64.wrap (t142 * 1099511627776))) ((decide (t137 < 0)) != (decide (t138 < 0)))).bind fun bt148 => (if t139 = true then (some (bt148.1, true)) else (some (bt148.1, bt148.2))))) else ((qfix_signed.f (t142 / 16777216) (Go.bits .or .u64 (t143 / 16777216) (IntKind.u64.wrap (t142 * 1099511627776))) ((decide (t137 < 0)) != (decide (t138 < 0)))).bind fun bt150 => (if t139 = true then (some (bt150.1, true)) else (some (bt150.1, bt150.2)))))) = some (r1, r2) := H
  have A6 := Aside0.mk A60
  clear A60
  by_cases c7 : (Go.bits .and .u64 t143 16777215) > 8388608
  · rw [if_pos c7] at H
    have c7b0 : decide (8388608 < (Go.bits .and .u64 t143 16777215)) = true := decide_eq_true c7
    clear c7
    replace H := Option.bind_eq_some_iff.mp H
    obtain ⟨⟨t144, t145⟩, A80, H⟩ := H
    replace H : (if t139 = true then (some (t144, true)) else (some (t144, t145))) = some (r1, r2) := H
    have A8 := Aside0.mk A80
    clear A80
    by_cases c9 : t139 = true
    · subst c9
      have H1 : (some (t144, true)) = some (r1, r2) := by rw [if_pos rfl] at H; exact H
      clear H
      have H := H1
      clear H1
      simp only [Option.some.injEq, Prod.mk.injEq] at H
      obtain ⟨rfl, rfl⟩ := H
      go_enter Try.func25, Try.ntmps25
      go_wp2_with (first | ((with_reducible refine gate_callee (f := 37) rfl ?_); refine goesL_ (some 15) rfl rfl Try.func37 (by kernel_rfl) rfl #[.int .i64 a0, .int .i64 a1] rfl (by (try simp only [List.map_toArray, List.map_cons, List.map_nil]); first | done | rfl | (simp only [List.length_drop, List.length_take]; rfl)) ?_; (with_reducible refine (qfix_both.calls a0 a1 t137 t138 true _ A3.out).mono ?_); rintro e w10 ⟨rfl, hb⟩; refine ⟨_, rfl, ?_⟩; have n0_ := Aside0.mk (below_step (by repeat (first | (with_reducible first | exact HB.out | apply below_alloc | apply pw_below_drewN | apply below_drew1) | exact HB.out)) hb); clear HB; have HB := n0_; clear n0_; (try clear hb); (try clear hb2); (try clear hk); (try clear hi)) | ((with_reducible refine gate_callee (f := 39) rfl ?_); refine goesL_ (some 21) rfl rfl Try.func39 (by kernel_rfl) rfl #[.int .i64 t137] rfl (by (try simp only [List.map_toArray, List.map_cons, List.map_nil]); first | done | rfl | (simp only [List.length_drop, List.length_take]; rfl)) ?_; (with_reducible refine (qfix_size.calls t137 t140 _ A4.out).mono ?_); rintro e w' ⟨rfl, ⟨nd, rfl⟩⟩; refine ⟨_, rfl, ?_⟩) | ((with_reducible refine gate_callee (f := 39) rfl ?_); refine goesL_ (some 23) rfl rfl Try.func39 (by kernel_rfl) rfl #[.int .i64 t138] rfl (by (try simp only [List.map_toArray, List.map_cons, List.map_nil]); first | done | rfl | (simp only [List.length_drop, List.length_take]; rfl)) ?_; (with_reducible refine (qfix_size.calls t138 t141 _ A5.out).mono ?_); rintro e w' ⟨rfl, ⟨nd, rfl⟩⟩; refine ⟨_, rfl, ?_⟩) | ((with_reducible refine gate_callee (f := 38) rfl ?_); refine goesL_ (some 24) rfl rfl Try.func38 (by kernel_rfl) rfl #[.int .u64 t140, .int .u64 t141] rfl (by (try simp only [List.map_toArray, List.map_cons, List.map_nil]); first | done | rfl | (simp only [List.length_drop, List.length_take]; rfl)) ?_; (with_reducible refine (bits_Mul64.calls t140 t141 t142 t143 _ A6.out).mono ?_); rintro e w' ⟨rfl, ⟨nd, rfl⟩⟩; refine ⟨_, rfl, ?_⟩) | ((with_reducible refine gate_callee (f := 40) rfl ?_); refine goesL_ (some 57) rfl rfl Try.func40 (by kernel_rfl) rfl #[.int .u64 (t142 / 16777216), .int .u64 (IntKind.u64.wrap ((Go.bits .or .u64 (t143 / 16777216) (IntKind.u64.wrap (t142 * 1099511627776))) + 1)), .bool ((decide (t137 < 0)) != (decide (t138 < 0)))] rfl (by (try simp only [List.map_toArray, List.map_cons, List.map_nil]); first | done | rfl | (simp only [List.length_drop, List.length_take]; rfl)) ?_; (with_reducible refine (qfix_signed.calls (t142 / 16777216) (IntKind.u64.wrap ((Go.bits .or .u64 (t143 / 16777216) (IntKind.u64.wrap (t142 * 1099511627776))) + 1)) ((decide (t137 < 0)) != (decide (t138 < 0))) t144 t145 _ A8.out).mono ?_); rintro e w11 ⟨rfl, hb⟩; refine ⟨_, rfl, ?_⟩; have n0_ := Aside0.mk (below_step (by repeat (first | (with_reducible first | exact HB.out | apply below_alloc | apply pw_below_drewN | apply below_drew1) | exact HB.out)) hb); clear HB; have HB := n0_; clear n0_; (try clear hb); (try clear hb2); (try clear hk); (try clear hi)))
      go_ret2
      exact ⟨by first | rfl | (simp [errW_none, errW_some] <;> rfl) | (simp [*, errW_none, errW_some] <;> rfl), by repeat (first | (with_reducible first | exact HB.out | apply below_alloc | apply pw_below_drewN | apply below_drew1) | exact HB.out)⟩
    · replace c9 := Bool.eq_false_iff.mpr c9
      subst c9
      have H1 : (some (t144, t145)) = some (r1, r2) := by rw [if_neg (show ¬ (false = true) by decide)] at H; exact H
      clear H
      have H := H1
      clear H1
      simp only [Option.some.injEq, Prod.mk.injEq] at H
      obtain ⟨rfl, rfl⟩ := H
      go_enter Try.func25, Try.ntmps25
      go_wp2_with (first | ((with_reducible refine gate_callee (f := 37) rfl ?_); refine goesL_ (some 15) rfl rfl Try.func37 (by kernel_rfl) rfl #[.int .i64 a0, .int .i64 a1] rfl (by (try simp only [List.map_toArray, List.map_cons, List.map_nil]); first | done | rfl | (simp only [List.length_drop, List.length_take]; rfl)) ?_; (with_reducible refine (qfix_both.calls a0 a1 t137 t138 false _ A3.out).mono ?_); rintro e w12 ⟨rfl, hb⟩; refine ⟨_, rfl, ?_⟩; have n0_ := Aside0.mk (below_step (by repeat (first | (with_reducible first | exact HB.out | apply below_alloc | apply pw_below_drewN | apply below_drew1) | exact HB.out)) hb); clear HB; have HB := n0_; clear n0_; (try clear hb); (try clear hb2); (try clear hk); (try clear hi)) | ((with_reducible refine gate_callee (f := 39) rfl ?_); refine goesL_ (some 21) rfl rfl Try.func39 (by kernel_rfl) rfl #[.int .i64 t137] rfl (by (try simp only [List.map_toArray, List.map_cons, List.map_nil]); first | done | rfl | (simp only [List.length_drop, List.length_take]; rfl)) ?_; (with_reducible refine (qfix_size.calls t137 t140 _ A4.out).mono ?_); rintro e w' ⟨rfl, ⟨nd, rfl⟩⟩; refine ⟨_, rfl, ?_⟩) | ((with_reducible refine gate_callee (f := 39) rfl ?_); refine goesL_ (some 23) rfl rfl Try.func39 (by kernel_rfl) rfl #[.int .i64 t138] rfl (by (try simp only [List.map_toArray, List.map_cons, List.map_nil]); first | done | rfl | (simp only [List.length_drop, List.length_take]; rfl)) ?_; (with_reducible refine (qfix_size.calls t138 t141 _ A5.out).mono ?_); rintro e w' ⟨rfl, ⟨nd, rfl⟩⟩; refine ⟨_, rfl, ?_⟩) | ((with_reducible refine gate_callee (f := 38) rfl ?_); refine goesL_ (some 24) rfl rfl Try.func38 (by kernel_rfl) rfl #[.int .u64 t140, .int .u64 t141] rfl (by (try simp only [List.map_toArray, List.map_cons, List.map_nil]); first | done | rfl | (simp only [List.length_drop, List.length_take]; rfl)) ?_; (with_reducible refine (bits_Mul64.calls t140 t141 t142 t143 _ A6.out).mono ?_); rintro e w' ⟨rfl, ⟨nd, rfl⟩⟩; refine ⟨_, rfl, ?_⟩) | ((with_reducible refine gate_callee (f := 40) rfl ?_); refine goesL_ (some 57) rfl rfl Try.func40 (by kernel_rfl) rfl #[.int .u64 (t142 / 16777216), .int .u64 (IntKind.u64.wrap ((Go.bits .or .u64 (t143 / 16777216) (IntKind.u64.wrap (t142 * 1099511627776))) + 1)), .bool ((decide (t137 < 0)) != (decide (t138 < 0)))] rfl (by (try simp only [List.map_toArray, List.map_cons, List.map_nil]); first | done | rfl | (simp only [List.length_drop, List.length_take]; rfl)) ?_; (with_reducible refine (qfix_signed.calls (t142 / 16777216) (IntKind.u64.wrap ((Go.bits .or .u64 (t143 / 16777216) (IntKind.u64.wrap (t142 * 1099511627776))) + 1)) ((decide (t137 < 0)) != (decide (t138 < 0))) t144 t145 _ A8.out).mono ?_); rintro e w13 ⟨rfl, hb⟩; refine ⟨_, rfl, ?_⟩; have n0_ := Aside0.mk (below_step (by repeat (first | (with_reducible first | exact HB.out | apply below_alloc | apply pw_below_drewN | apply below_drew1) | exact HB.out)) hb); clear HB; have HB := n0_; clear n0_; (try clear hb); (try clear hb2); (try clear hk); (try clear hi)))
      go_ret2
      exact ⟨by first | rfl | (simp [errW_none, errW_some] <;> rfl) | (simp [*, errW_none, errW_some] <;> rfl), by repeat (first | (with_reducible first | exact HB.out | apply below_alloc | apply pw_below_drewN | apply below_drew1) | exact HB.out)⟩
  · rw [if_neg c7] at H
    have c7b0 : decide (8388608 < (Go.bits .and .u64 t143 16777215)) = false := decide_eq_false c7
    clear c7
    by_cases c14 : (Go.bits .and .u64 t143 16777215) = 8388608
    · rw [if_pos c14] at H
      have c14b0 : ((Go.bits .and .u64 t143 16777215) == 8388608) = true := beq_iff_eq.mpr c14
      have c14b1 : ((Go.bits .and .u64 t143 16777215) != 8388608) = false := bne_eq_false_iff_eq.mpr c14
      clear c14
      by_cases c15 : (Go.bits .and .u64 (Go.bits .or .u64 (t143 / 16777216) (IntKind.u64.wrap (t142 * 1099511627776))) 1) = 1
      · rw [if_pos c15] at H
        have c15b0 : ((Go.bits .and .u64 (Go.bits .or .u64 (t143 / 16777216) (IntKind.u64.wrap (t142 * 1099511627776))) 1) == 1) = true := beq_iff_eq.mpr c15
        have c15b1 : ((Go.bits .and .u64 (Go.bits .or .u64 (t143 / 16777216) (IntKind.u64.wrap (t142 * 1099511627776))) 1) != 1) = false := bne_eq_false_iff_eq.mpr c15
        clear c15
        replace H := Option.bind_eq_some_iff.mp H
        obtain ⟨⟨t146, t147⟩, A160, H⟩ := H
        replace H : (if t139 = true then (some (t146, true)) else (some (t146, t147))) = some (r1, r2) := H
        have A16 := Aside0.mk A160
        clear A160
        by_cases c17 : t139 = true
        · subst c17
          have H1 : (some (t146, true)) = some (r1, r2) := by rw [if_pos rfl] at H; exact H
          clear H
          have H := H1
          clear H1
          simp only [Option.some.injEq, Prod.mk.injEq] at H
          obtain ⟨rfl, rfl⟩ := H
          go_enter Try.func25, Try.ntmps25
          go_wp2_with (first | ((with_reducible refine gate_callee (f := 37) rfl ?_); refine goesL_ (some 15) rfl rfl Try.func37 (by kernel_rfl) rfl #[.int .i64 a0, .int .i64 a1] rfl (by (try simp only [List.map_toArray, List.map_cons, List.map_nil]); first | done | rfl | (simp only [List.length_drop, List.length_take]; rfl)) ?_; (with_reducible refine (qfix_both.calls a0 a1 t137 t138 true _ A3.out).mono ?_); rintro e w18 ⟨rfl, hb⟩; refine ⟨_, rfl, ?_⟩; have n0_ := Aside0.mk (below_step (by repeat (first | (with_reducible first | exact HB.out | apply below_alloc | apply pw_below_drewN | apply below_drew1) | exact HB.out)) hb); clear HB; have HB := n0_; clear n0_; (try clear hb); (try clear hb2); (try clear hk); (try clear hi)) | ((with_reducible refine gate_callee (f := 39) rfl ?_); refine goesL_ (some 21) rfl rfl Try.func39 (by kernel_rfl) rfl #[.int .i64 t137] rfl (by (try simp only [List.map_toArray, List.map_cons, List.map_nil]); first | done | rfl | (simp only [List.length_drop, List.length_take]; rfl)) ?_; (with_reducible refine (qfix_size.calls t137 t140 _ A4.out).mono ?_); rintro e w' ⟨rfl, ⟨nd, rfl⟩⟩; refine ⟨_, rfl, ?_⟩) | ((with_reducible refine gate_callee (f := 39) rfl ?_); refine goesL_ (some 23) rfl rfl Try.func39 (by kernel_rfl) rfl #[.int .i64 t138] rfl (by (try simp only [List.map_toArray, List.map_cons, List.map_nil]); first | done | rfl | (simp only [List.length_drop, List.length_take]; rfl)) ?_; (with_reducible refine (qfix_size.calls t138 t141 _ A5.out).mono ?_); rintro e w' ⟨rfl, ⟨nd, rfl⟩⟩; refine ⟨_, rfl, ?_⟩) | ((with_reducible refine gate_callee (f := 38) rfl ?_); refine goesL_ (some 24) rfl rfl Try.func38 (by kernel_rfl) rfl #[.int .u64 t140, .int .u64 t141] rfl (by (try simp only [List.map_toArray, List.map_cons, List.map_nil]); first | done | rfl | (simp only [List.length_drop, List.length_take]; rfl)) ?_; (with_reducible refine (bits_Mul64.calls t140 t141 t142 t143 _ A6.out).mono ?_); rintro e w' ⟨rfl, ⟨nd, rfl⟩⟩; refine ⟨_, rfl, ?_⟩) | ((with_reducible refine gate_callee (f := 40) rfl ?_); refine goesL_ (some 57) rfl rfl Try.func40 (by kernel_rfl) rfl #[.int .u64 (t142 / 16777216), .int .u64 (IntKind.u64.wrap ((Go.bits .or .u64 (t143 / 16777216) (IntKind.u64.wrap (t142 * 1099511627776))) + 1)), .bool ((decide (t137 < 0)) != (decide (t138 < 0)))] rfl (by (try simp only [List.map_toArray, List.map_cons, List.map_nil]); first | done | rfl | (simp only [List.length_drop, List.length_take]; rfl)) ?_; (with_reducible refine (qfix_signed.calls (t142 / 16777216) (IntKind.u64.wrap ((Go.bits .or .u64 (t143 / 16777216) (IntKind.u64.wrap (t142 * 1099511627776))) + 1)) ((decide (t137 < 0)) != (decide (t138 < 0))) t146 t147 _ A16.out).mono ?_); rintro e w19 ⟨rfl, hb⟩; refine ⟨_, rfl, ?_⟩; have n0_ := Aside0.mk (below_step (by repeat (first | (with_reducible first | exact HB.out | apply below_alloc | apply pw_below_drewN | apply below_drew1) | exact HB.out)) hb); clear HB; have HB := n0_; clear n0_; (try clear hb); (try clear hb2); (try clear hk); (try clear hi)))
          go_ret2
          exact ⟨by first | rfl | (simp [errW_none, errW_some] <;> rfl) | (simp [*, errW_none, errW_some] <;> rfl), by repeat (first | (with_reducible first | exact HB.out | apply below_alloc | apply pw_below_drewN | apply below_drew1) | exact HB.out)⟩
        · replace c17 := Bool.eq_false_iff.mpr c17
          subst c17
          have H1 : (some (t146, t147)) = some (r1, r2) := by rw [if_neg (show ¬ (false = true) by decide)] at H; exact H
          clear H
          have H := H1
          clear H1
          simp only [Option.some.injEq, Prod.mk.injEq] at H
          obtain ⟨rfl, rfl⟩ := H
          go_enter Try.func25, Try.ntmps25
          go_wp2_with (first | ((with_reducible refine gate_callee (f := 37) rfl ?_); refine goesL_ (some 15) rfl rfl Try.func37 (by kernel_rfl) rfl #[.int .i64 a0, .int .i64 a1] rfl (by (try simp only [List.map_toArray, List.map_cons, List.map_nil]); first | done | rfl | (simp only [List.length_drop, List.length_take]; rfl)) ?_; (with_reducible refine (qfix_both.calls a0 a1 t137 t138 false _ A3.out).mono ?_); rintro e w20 ⟨rfl, hb⟩; refine ⟨_, rfl, ?_⟩; have n0_ := Aside0.mk (below_step (by repeat (first | (with_reducible first | exact HB.out | apply below_alloc | apply pw_below_drewN | apply below_drew1) | exact HB.out)) hb); clear HB; have HB := n0_; clear n0_; (try clear hb); (try clear hb2); (try clear hk); (try clear hi)) | ((with_reducible refine gate_callee (f := 39) rfl ?_); refine goesL_ (some 21) rfl rfl Try.func39 (by kernel_rfl) rfl #[.int .i64 t137] rfl (by (try simp only [List.map_toArray, List.map_cons, List.map_nil]); first | done | rfl | (simp only [List.length_drop, List.length_take]; rfl)) ?_; (with_reducible refine (qfix_size.calls t137 t140 _ A4.out).mono ?_); rintro e w' ⟨rfl, ⟨nd, rfl⟩⟩; refine ⟨_, rfl, ?_⟩) | ((with_reducible refine gate_callee (f := 39) rfl ?_); refine goesL_ (some 23) rfl rfl Try.func39 (by kernel_rfl) rfl #[.int .i64 t138] rfl (by (try simp only [List.map_toArray, List.map_cons, List.map_nil]); first | done | rfl | (simp only [List.length_drop, List.length_take]; rfl)) ?_; (with_reducible refine (qfix_size.calls t138 t141 _ A5.out).mono ?_); rintro e w' ⟨rfl, ⟨nd, rfl⟩⟩; refine ⟨_, rfl, ?_⟩) | ((with_reducible refine gate_callee (f := 38) rfl ?_); refine goesL_ (some 24) rfl rfl Try.func38 (by kernel_rfl) rfl #[.int .u64 t140, .int .u64 t141] rfl (by (try simp only [List.map_toArray, List.map_cons, List.map_nil]); first | done | rfl | (simp only [List.length_drop, List.length_take]; rfl)) ?_; (with_reducible refine (bits_Mul64.calls t140 t141 t142 t143 _ A6.out).mono ?_); rintro e w' ⟨rfl, ⟨nd, rfl⟩⟩; refine ⟨_, rfl, ?_⟩) | ((with_reducible refine gate_callee (f := 40) rfl ?_); refine goesL_ (some 57) rfl rfl Try.func40 (by kernel_rfl) rfl #[.int .u64 (t142 / 16777216), .int .u64 (IntKind.u64.wrap ((Go.bits .or .u64 (t143 / 16777216) (IntKind.u64.wrap (t142 * 1099511627776))) + 1)), .bool ((decide (t137 < 0)) != (decide (t138 < 0)))] rfl (by (try simp only [List.map_toArray, List.map_cons, List.map_nil]); first | done | rfl | (simp only [List.length_drop, List.length_take]; rfl)) ?_; (with_reducible refine (qfix_signed.calls (t142 / 16777216) (IntKind.u64.wrap ((Go.bits .or .u64 (t143 / 16777216) (IntKind.u64.wrap (t142 * 1099511627776))) + 1)) ((decide (t137 < 0)) != (decide (t138 < 0))) t146 t147 _ A16.out).mono ?_); rintro e w21 ⟨rfl, hb⟩; refine ⟨_, rfl, ?_⟩; have n0_ := Aside0.mk (below_step (by repeat (first | (with_reducible first | exact HB.out | apply below_alloc | apply pw_below_drewN | apply below_drew1) | exact HB.out)) hb); clear HB; have HB := n0_; clear n0_; (try clear hb); (try clear hb2); (try clear hk); (try clear hi)))
          go_ret2
          exact ⟨by first | rfl | (simp [errW_none, errW_some] <;> rfl) | (simp [*, errW_none, errW_some] <;> rfl), by repeat (first | (with_reducible first | exact HB.out | apply below_alloc | apply pw_below_drewN | apply below_drew1) | exact HB.out)⟩
      · rw [if_neg c15] at H
        have c15b0 : ((Go.bits .and .u64 (Go.bits .or .u64 (t143 / 16777216) (IntKind.u64.wrap (t142 * 1099511627776))) 1) == 1) = false := beq_eq_false_iff_ne.mpr c15
        have c15b1 : ((Go.bits .and .u64 (Go.bits .or .u64 (t143 / 16777216) (IntKind.u64.wrap (t142 * 1099511627776))) 1) != 1) = true := bne_iff_ne.mpr c15
        replace H := Option.bind_eq_some_iff.mp H
        obtain ⟨⟨t148, t149⟩, A220, H⟩ := H
        replace H : (if t139 = true then (some (t148, true)) else (some (t148, t149))) = some (r1, r2) := H
        have A22 := Aside0.mk A220
        clear A220
        by_cases c23 : t139 = true
        · subst c23
          have H1 : (some (t148, true)) = some (r1, r2) := by rw [if_pos rfl] at H; exact H
          clear H
          have H := H1
          clear H1
          simp only [Option.some.injEq, Prod.mk.injEq] at H
          obtain ⟨rfl, rfl⟩ := H
          go_enter Try.func25, Try.ntmps25
          go_wp2_with (first | ((with_reducible refine gate_callee (f := 37) rfl ?_); refine goesL_ (some 15) rfl rfl Try.func37 (by kernel_rfl) rfl #[.int .i64 a0, .int .i64 a1] rfl (by (try simp only [List.map_toArray, List.map_cons, List.map_nil]); first | done | rfl | (simp only [List.length_drop, List.length_take]; rfl)) ?_; (with_reducible refine (qfix_both.calls a0 a1 t137 t138 true _ A3.out).mono ?_); rintro e w24 ⟨rfl, hb⟩; refine ⟨_, rfl, ?_⟩; have n0_ := Aside0.mk (below_step (by repeat (first | (with_reducible first | exact HB.out | apply below_alloc | apply pw_below_drewN | apply below_drew1) | exact HB.out)) hb); clear HB; have HB := n0_; clear n0_; (try clear hb); (try clear hb2); (try clear hk); (try clear hi)) | ((with_reducible refine gate_callee (f := 39) rfl ?_); refine goesL_ (some 21) rfl rfl Try.func39 (by kernel_rfl) rfl #[.int .i64 t137] rfl (by (try simp only [List.map_toArray, List.map_cons, List.map_nil]); first | done | rfl | (simp only [List.length_drop, List.length_take]; rfl)) ?_; (with_reducible refine (qfix_size.calls t137 t140 _ A4.out).mono ?_); rintro e w' ⟨rfl, ⟨nd, rfl⟩⟩; refine ⟨_, rfl, ?_⟩) | ((with_reducible refine gate_callee (f := 39) rfl ?_); refine goesL_ (some 23) rfl rfl Try.func39 (by kernel_rfl) rfl #[.int .i64 t138] rfl (by (try simp only [List.map_toArray, List.map_cons, List.map_nil]); first | done | rfl | (simp only [List.length_drop, List.length_take]; rfl)) ?_; (with_reducible refine (qfix_size.calls t138 t141 _ A5.out).mono ?_); rintro e w' ⟨rfl, ⟨nd, rfl⟩⟩; refine ⟨_, rfl, ?_⟩) | ((with_reducible refine gate_callee (f := 38) rfl ?_); refine goesL_ (some 24) rfl rfl Try.func38 (by kernel_rfl) rfl #[.int .u64 t140, .int .u64 t141] rfl (by (try simp only [List.map_toArray, List.map_cons, List.map_nil]); first | done | rfl | (simp only [List.length_drop, List.length_take]; rfl)) ?_; (with_reducible refine (bits_Mul64.calls t140 t141 t142 t143 _ A6.out).mono ?_); rintro e w' ⟨rfl, ⟨nd, rfl⟩⟩; refine ⟨_, rfl, ?_⟩) | ((with_reducible refine gate_callee (f := 40) rfl ?_); refine goesL_ (some 57) rfl rfl Try.func40 (by kernel_rfl) rfl #[.int .u64 (t142 / 16777216), .int .u64 (Go.bits .or .u64 (t143 / 16777216) (IntKind.u64.wrap (t142 * 1099511627776))), .bool ((decide (t137 < 0)) != (decide (t138 < 0)))] rfl (by (try simp only [List.map_toArray, List.map_cons, List.map_nil]); first | done | rfl | (simp only [List.length_drop, List.length_take]; rfl)) ?_; (with_reducible refine (qfix_signed.calls (t142 / 16777216) (Go.bits .or .u64 (t143 / 16777216) (IntKind.u64.wrap (t142 * 1099511627776))) ((decide (t137 < 0)) != (decide (t138 < 0))) t148 t149 _ A22.out).mono ?_); rintro e w25 ⟨rfl, hb⟩; refine ⟨_, rfl, ?_⟩; have n0_ := Aside0.mk (below_step (by repeat (first | (with_reducible first | exact HB.out | apply below_alloc | apply pw_below_drewN | apply below_drew1) | exact HB.out)) hb); clear HB; have HB := n0_; clear n0_; (try clear hb); (try clear hb2); (try clear hk); (try clear hi)))
          go_ret2
          exact ⟨by first | rfl | (simp [errW_none, errW_some] <;> rfl) | (simp [*, errW_none, errW_some] <;> rfl), by repeat (first | (with_reducible first | exact HB.out | apply below_alloc | apply pw_below_drewN | apply below_drew1) | exact HB.out)⟩
        · replace c23 := Bool.eq_false_iff.mpr c23
          subst c23
          have H1 : (some (t148, t149)) = some (r1, r2) := by rw [if_neg (show ¬ (false = true) by decide)] at H; exact H
          clear H
          have H := H1
          clear H1
          simp only [Option.some.injEq, Prod.mk.injEq] at H
          obtain ⟨rfl, rfl⟩ := H
          go_enter Try.func25, Try.ntmps25
          go_wp2_with (first | ((with_reducible refine gate_callee (f := 37) rfl ?_); refine goesL_ (some 15) rfl rfl Try.func37 (by kernel_rfl) rfl #[.int .i64 a0, .int .i64 a1] rfl (by (try simp only [List.map_toArray, List.map_cons, List.map_nil]); first | done | rfl | (simp only [List.length_drop, List.length_take]; rfl)) ?_; (with_reducible refine (qfix_both.calls a0 a1 t137 t138 false _ A3.out).mono ?_); rintro e w26 ⟨rfl, hb⟩; refine ⟨_, rfl, ?_⟩; have n0_ := Aside0.mk (below_step (by repeat (first | (with_reducible first | exact HB.out | apply below_alloc | apply pw_below_drewN | apply below_drew1) | exact HB.out)) hb); clear HB; have HB := n0_; clear n0_; (try clear hb); (try clear hb2); (try clear hk); (try clear hi)) | ((with_reducible refine gate_callee (f := 39) rfl ?_); refine goesL_ (some 21) rfl rfl Try.func39 (by kernel_rfl) rfl #[.int .i64 t137] rfl (by (try simp only [List.map_toArray, List.map_cons, List.map_nil]); first | done | rfl | (simp only [List.length_drop, List.length_take]; rfl)) ?_; (with_reducible refine (qfix_size.calls t137 t140 _ A4.out).mono ?_); rintro e w' ⟨rfl, ⟨nd, rfl⟩⟩; refine ⟨_, rfl, ?_⟩) | ((with_reducible refine gate_callee (f := 39) rfl ?_); refine goesL_ (some 23) rfl rfl Try.func39 (by kernel_rfl) rfl #[.int .i64 t138] rfl (by (try simp only [List.map_toArray, List.map_cons, List.map_nil]); first | done | rfl | (simp only [List.length_drop, List.length_take]; rfl)) ?_; (with_reducible refine (qfix_size.calls t138 t141 _ A5.out).mono ?_); rintro e w' ⟨rfl, ⟨nd, rfl⟩⟩; refine ⟨_, rfl, ?_⟩) | ((with_reducible refine gate_callee (f := 38) rfl ?_); refine goesL_ (some 24) rfl rfl Try.func38 (by kernel_rfl) rfl #[.int .u64 t140, .int .u64 t141] rfl (by (try simp only [List.map_toArray, List.map_cons, List.map_nil]); first | done | rfl | (simp only [List.length_drop, List.length_take]; rfl)) ?_; (with_reducible refine (bits_Mul64.calls t140 t141 t142 t143 _ A6.out).mono ?_); rintro e w' ⟨rfl, ⟨nd, rfl⟩⟩; refine ⟨_, rfl, ?_⟩) | ((with_reducible refine gate_callee (f := 40) rfl ?_); refine goesL_ (some 57) rfl rfl Try.func40 (by kernel_rfl) rfl #[.int .u64 (t142 / 16777216), .int .u64 (Go.bits .or .u64 (t143 / 16777216) (IntKind.u64.wrap (t142 * 1099511627776))), .bool ((decide (t137 < 0)) != (decide (t138 < 0)))] rfl (by (try simp only [List.map_toArray, List.map_cons, List.map_nil]); first | done | rfl | (simp only [List.length_drop, List.length_take]; rfl)) ?_; (with_reducible refine (qfix_signed.calls (t142 / 16777216) (Go.bits .or .u64 (t143 / 16777216) (IntKind.u64.wrap (t142 * 1099511627776))) ((decide (t137 < 0)) != (decide (t138 < 0))) t148 t149 _ A22.out).mono ?_); rintro e w27 ⟨rfl, hb⟩; refine ⟨_, rfl, ?_⟩; have n0_ := Aside0.mk (below_step (by repeat (first | (with_reducible first | exact HB.out | apply below_alloc | apply pw_below_drewN | apply below_drew1) | exact HB.out)) hb); clear HB; have HB := n0_; clear n0_; (try clear hb); (try clear hb2); (try clear hk); (try clear hi)))
          go_ret2
          exact ⟨by first | rfl | (simp [errW_none, errW_some] <;> rfl) | (simp [*, errW_none, errW_some] <;> rfl), by repeat (first | (with_reducible first | exact HB.out | apply below_alloc | apply pw_below_drewN | apply below_drew1) | exact HB.out)⟩
    · rw [if_neg c14] at H
      have c14b0 : ((Go.bits .and .u64 t143 16777215) == 8388608) = false := beq_eq_false_iff_ne.mpr c14
      have c14b1 : ((Go.bits .and .u64 t143 16777215) != 8388608) = true := bne_iff_ne.mpr c14
      replace H := Option.bind_eq_some_iff.mp H
      obtain ⟨⟨t150, t151⟩, A280, H⟩ := H
      replace H : (if t139 = true then (some (t150, true)) else (some (t150, t151))) = some (r1, r2) := H
      have A28 := Aside0.mk A280
      clear A280
      by_cases c29 : t139 = true
      · subst c29
        have H1 : (some (t150, true)) = some (r1, r2) := by rw [if_pos rfl] at H; exact H
        clear H
        have H := H1
        clear H1
        simp only [Option.some.injEq, Prod.mk.injEq] at H
        obtain ⟨rfl, rfl⟩ := H
        go_enter Try.func25, Try.ntmps25
        go_wp2_with (first | ((with_reducible refine gate_callee (f := 37) rfl ?_); refine goesL_ (some 15) rfl rfl Try.func37 (by kernel_rfl) rfl #[.int .i64 a0, .int .i64 a1] rfl (by (try simp only [List.map_toArray, List.map_cons, List.map_nil]); first | done | rfl | (simp only [List.length_drop, List.length_take]; rfl)) ?_; (with_reducible refine (qfix_both.calls a0 a1 t137 t138 true _ A3.out).mono ?_); rintro e w30 ⟨rfl, hb⟩; refine ⟨_, rfl, ?_⟩; have n0_ := Aside0.mk (below_step (by repeat (first | (with_reducible first | exact HB.out | apply below_alloc | apply pw_below_drewN | apply below_drew1) | exact HB.out)) hb); clear HB; have HB := n0_; clear n0_; (try clear hb); (try clear hb2); (try clear hk); (try clear hi)) | ((with_reducible refine gate_callee (f := 39) rfl ?_); refine goesL_ (some 21) rfl rfl Try.func39 (by kernel_rfl) rfl #[.int .i64 t137] rfl (by (try simp only [List.map_toArray, List.map_cons, List.map_nil]); first | done | rfl | (simp only [List.length_drop, List.length_take]; rfl)) ?_; (with_reducible refine (qfix_size.calls t137 t140 _ A4.out).mono ?_); rintro e w' ⟨rfl, ⟨nd, rfl⟩⟩; refine ⟨_, rfl, ?_⟩) | ((with_reducible refine gate_callee (f := 39) rfl ?_); refine goesL_ (some 23) rfl rfl Try.func39 (by kernel_rfl) rfl #[.int .i64 t138] rfl (by (try simp only [List.map_toArray, List.map_cons, List.map_nil]); first | done | rfl | (simp only [List.length_drop, List.length_take]; rfl)) ?_; (with_reducible refine (qfix_size.calls t138 t141 _ A5.out).mono ?_); rintro e w' ⟨rfl, ⟨nd, rfl⟩⟩; refine ⟨_, rfl, ?_⟩) | ((with_reducible refine gate_callee (f := 38) rfl ?_); refine goesL_ (some 24) rfl rfl Try.func38 (by kernel_rfl) rfl #[.int .u64 t140, .int .u64 t141] rfl (by (try simp only [List.map_toArray, List.map_cons, List.map_nil]); first | done | rfl | (simp only [List.length_drop, List.length_take]; rfl)) ?_; (with_reducible refine (bits_Mul64.calls t140 t141 t142 t143 _ A6.out).mono ?_); rintro e w' ⟨rfl, ⟨nd, rfl⟩⟩; refine ⟨_, rfl, ?_⟩) | ((with_reducible refine gate_callee (f := 40) rfl ?_); refine goesL_ (some 57) rfl rfl Try.func40 (by kernel_rfl) rfl #[.int .u64 (t142 / 16777216), .int .u64 (Go.bits .or .u64 (t143 / 16777216) (IntKind.u64.wrap (t142 * 1099511627776))), .bool ((decide (t137 < 0)) != (decide (t138 < 0)))] rfl (by (try simp only [List.map_toArray, List.map_cons, List.map_nil]); first | done | rfl | (simp only [List.length_drop, List.length_take]; rfl)) ?_; (with_reducible refine (qfix_signed.calls (t142 / 16777216) (Go.bits .or .u64 (t143 / 16777216) (IntKind.u64.wrap (t142 * 1099511627776))) ((decide (t137 < 0)) != (decide (t138 < 0))) t150 t151 _ A28.out).mono ?_); rintro e w31 ⟨rfl, hb⟩; refine ⟨_, rfl, ?_⟩; have n0_ := Aside0.mk (below_step (by repeat (first | (with_reducible first | exact HB.out | apply below_alloc | apply pw_below_drewN | apply below_drew1) | exact HB.out)) hb); clear HB; have HB := n0_; clear n0_; (try clear hb); (try clear hb2); (try clear hk); (try clear hi)))
        go_ret2
        exact ⟨by first | rfl | (simp [errW_none, errW_some] <;> rfl) | (simp [*, errW_none, errW_some] <;> rfl), by repeat (first | (with_reducible first | exact HB.out | apply below_alloc | apply pw_below_drewN | apply below_drew1) | exact HB.out)⟩
      · replace c29 := Bool.eq_false_iff.mpr c29
        subst c29
        have H1 : (some (t150, t151)) = some (r1, r2) := by rw [if_neg (show ¬ (false = true) by decide)] at H; exact H
        clear H
        have H := H1
        clear H1
        simp only [Option.some.injEq, Prod.mk.injEq] at H
        obtain ⟨rfl, rfl⟩ := H
        go_enter Try.func25, Try.ntmps25
        go_wp2_with (first | ((with_reducible refine gate_callee (f := 37) rfl ?_); refine goesL_ (some 15) rfl rfl Try.func37 (by kernel_rfl) rfl #[.int .i64 a0, .int .i64 a1] rfl (by (try simp only [List.map_toArray, List.map_cons, List.map_nil]); first | done | rfl | (simp only [List.length_drop, List.length_take]; rfl)) ?_; (with_reducible refine (qfix_both.calls a0 a1 t137 t138 false _ A3.out).mono ?_); rintro e w32 ⟨rfl, hb⟩; refine ⟨_, rfl, ?_⟩; have n0_ := Aside0.mk (below_step (by repeat (first | (with_reducible first | exact HB.out | apply below_alloc | apply pw_below_drewN | apply below_drew1) | exact HB.out)) hb); clear HB; have HB := n0_; clear n0_; (try clear hb); (try clear hb2); (try clear hk); (try clear hi)) | ((with_reducible refine gate_callee (f := 39) rfl ?_); refine goesL_ (some 21) rfl rfl Try.func39 (by kernel_rfl) rfl #[.int .i64 t137] rfl (by (try simp only [List.map_toArray, List.map_cons, List.map_nil]); first | done | rfl | (simp only [List.length_drop, List.length_take]; rfl)) ?_; (with_reducible refine (qfix_size.calls t137 t140 _ A4.out).mono ?_); rintro e w' ⟨rfl, ⟨nd, rfl⟩⟩; refine ⟨_, rfl, ?_⟩) | ((with_reducible refine gate_callee (f := 39) rfl ?_); refine goesL_ (some 23) rfl rfl Try.func39 (by kernel_rfl) rfl #[.int .i64 t138] rfl (by (try simp only [List.map_toArray, List.map_cons, List.map_nil]); first | done | rfl | (simp only [List.length_drop, List.length_take]; rfl)) ?_; (with_reducible refine (qfix_size.calls t138 t141 _ A5.out).mono ?_); rintro e w' ⟨rfl, ⟨nd, rfl⟩⟩; refine ⟨_, rfl, ?_⟩) | ((with_reducible refine gate_callee (f := 38) rfl ?_); refine goesL_ (some 24) rfl rfl Try.func38 (by kernel_rfl) rfl #[.int .u64 t140, .int .u64 t141] rfl (by (try simp only [List.map_toArray, List.map_cons, List.map_nil]); first | done | rfl | (simp only [List.length_drop, List.length_take]; rfl)) ?_; (with_reducible refine (bits_Mul64.calls t140 t141 t142 t143 _ A6.out).mono ?_); rintro e w' ⟨rfl, ⟨nd, rfl⟩⟩; refine ⟨_, rfl, ?_⟩) | ((with_reducible refine gate_callee (f := 40) rfl ?_); refine goesL_ (some 57) rfl rfl Try.func40 (by kernel_rfl) rfl #[.int .u64 (t142 / 16777216), .int .u64 (Go.bits .or .u64 (t143 / 16777216) (IntKind.u64.wrap (t142 * 1099511627776))), .bool ((decide (t137 < 0)) != (decide (t138 < 0)))] rfl (by (try simp only [List.map_toArray, List.map_cons, List.map_nil]); first | done | rfl | (simp only [List.length_drop, List.length_take]; rfl)) ?_; (with_reducible refine (qfix_signed.calls (t142 / 16777216) (Go.bits .or .u64 (t143 / 16777216) (IntKind.u64.wrap (t142 * 1099511627776))) ((decide (t137 < 0)) != (decide (t138 < 0))) t150 t151 _ A28.out).mono ?_); rintro e w33 ⟨rfl, hb⟩; refine ⟨_, rfl, ?_⟩; have n0_ := Aside0.mk (below_step (by repeat (first | (with_reducible first | exact HB.out | apply below_alloc | apply pw_below_drewN | apply below_drew1) | exact HB.out)) hb); clear HB; have HB := n0_; clear n0_; (try clear hb); (try clear hb2); (try clear hk); (try clear hi)))
        go_ret2
        exact ⟨by first | rfl | (simp [errW_none, errW_some] <;> rfl) | (simp [*, errW_none, errW_some] <;> rfl), by repeat (first | (with_reducible first | exact HB.out | apply below_alloc | apply pw_below_drewN | apply below_drew1) | exact HB.out)⟩

/-! ### qfix_Half: function 36 -/
def qfix_Half.f (a0 : Int) (a1 : Int) : Option (Int) := if (mn (mx a1 0) 62) > 0 then (if 0 ≤ ((mn (mx a1 0) 62) - 1) then (if (Go.bits .and .u64 (IntKind.u64.wrap (a0)) (IntKind.u64.wrap ((IntKind.u64.wrap (2 ^ (mn (mx a1 0) 62).toNat)) - 1))) > (IntKind.u64.wrap (2 ^ ((mn (mx a1 0) 62) - 1).toNat)) then (some (wrap64 ((a0 / 2 ^ (mn (mx a1 0) 62).toNat) + 1))) else (if (Go.bits .and .u64 (IntKind.u64.wrap (a0)) (IntKind.u64.wrap ((IntKind.u64.wrap (2 ^ (mn (mx a1 0) 62).toNat)) - 1))) = (IntKind.u64.wrap (2 ^ ((mn (mx a1 0) 62) - 1).toNat)) then (if (Go.bits .and .i64 (a0 / 2 ^ (mn (mx a1 0) 62).toNat) 1) = 1 then (some (wrap64 ((a0 / 2 ^ (mn (mx a1 0) 62).toNat) + 1))) else (some (a0 / 2 ^ (mn (mx a1 0) 62).toNat))) else (some (a0 / 2 ^ (mn (mx a1 0) 62).toNat)))) else (none)) else (some (a0 / 2 ^ (mn (mx a1 0) 62).toNat))
set_option maxHeartbeats 8000000 in
set_option maxRecDepth 100000 in
theorem qfix_Half.calls (a0 : Int) (a1 : Int) (r : Int) (w : World) (h : qfix_Half.f a0 a1 = some r) :
    Calls Try.prog 36 #[.int .i64 a0, .int .i64 a1] w fun e w' => e = .returned (.int .i64 r) ∧ Below w.heap.size w w' := by
  have HB := Aside0.mk (Below.refl w.heap.size w)
  have H : (if (mn (mx a1 0) 62) > 0 then (if 0 ≤ ((mn (mx a1 0) 62) - 1) then (if (Go.bits .and .u64 (IntKind.u64.wrap (a0)) (IntKind.u64.wrap ((IntKind.u64.wrap (2 ^ (mn (mx a1 0) 62).toNat)) - 1))) > (IntKind.u64.wrap (2 ^ ((mn (mx a1 0) 62) - 1).toNat)) then (some (wrap64 ((a0 / 2 ^ (mn (mx a1 0) 62).toNat) + 1))) else (if (Go.bits .and .u64 (IntKind.u64.wrap (a0)) (IntKind.u64.wrap ((IntKind.u64.wrap (2 ^ (mn (mx a1 0) 62).toNat)) - 1))) = (IntKind.u64.wrap (2 ^ ((mn (mx a1 0) 62) - 1).toNat)) then (if (Go.bits .and .i64 (a0 / 2 ^ (mn (mx a1 0) 62).toNat) 1) = 1 then (some (wrap64 ((a0 / 2 ^ (mn (mx a1 0) 62).toNat) + 1))) else (some (a0 / 2 ^ (mn (mx a1 0) 62).toNat))) else (some (a0 / 2 ^ (mn (mx a1 0) 62).toNat)))) else (none)) else (some (a0 / 2 ^ (mn (mx a1 0) 62).toNat))) = some r := h
  clear h
  obtain ⟨ji3, hji3⟩ : ∃ j_ : Int, (mx a1 0) = j_ := ⟨_, rfl⟩
  replace H : (if (mn (ji3) 62) > 0 then (if 0 ≤ ((mn (ji3) 62) - 1) then (if (Go.bits .and .u64 (IntKind.u64.wrap (a0)) (IntKind.u64.wrap ((IntKind.u64.wrap (2 ^ (mn (ji3) 62).toNat)) - 1))) > (IntKind.u64.wrap (2 ^ ((mn (ji3) 62) - 1).toNat)) then (some (wrap64 ((a0 / 2 ^ (mn (ji3) 62).toNat) + 1))) else (if (Go.bits .and .u64 (IntKind.u64.wrap (a0)) (IntKind.u64.wrap ((IntKind.u64.wrap (2 ^ (mn (ji3) 62).toNat)) - 1))) = (IntKind.u64.wrap (2 ^ ((mn (ji3) 62) - 1).toNat)) then (if (Go.bits .and .i64 (a0 / 2 ^ (mn (ji3) 62).toNat) 1) = 1 then (some (wrap64 ((a0 / 2 ^ (mn (ji3) 62).toNat) + 1))) else (some (a0 / 2 ^ (mn (ji3) 62).toNat))) else (some (a0 / 2 ^ (mn (ji3) 62).toNat)))) else (none)) else (some (a0 / 2 ^ (mn (ji3) 62).toNat))) = some r := by first | (rw [hji3] at H; exact H) | (simp only [hji3] at H ⊢; exact H)
  (try (have hji3l : 0 ≤ ji3 := by (rw [← hji3]; unfold mx; (repeat' split) <;> omega)))
  (try (have hji3m : 0 ≤ ji3 := by omega))
  have hji3_ : (if a1 < 0 then 0 else a1) = ji3 := hji3
  obtain ⟨ji4, hji4⟩ : ∃ j_ : Int, (mn (ji3) 62) = j_ := ⟨_, rfl⟩
  replace H : (if (ji4) > 0 then (if 0 ≤ ((ji4) - 1) then (if (Go.bits .and .u64 (IntKind.u64.wrap (a0)) (IntKind.u64.wrap ((IntKind.u64.wrap (2 ^ (ji4).toNat)) - 1))) > (IntKind.u64.wrap (2 ^ ((ji4) - 1).toNat)) then (some (wrap64 ((a0 / 2 ^ (ji4).toNat) + 1))) else (if (Go.bits .and .u64 (IntKind.u64.wrap (a0)) (IntKind.u64.wrap ((IntKind.u64.wrap (2 ^ (ji4).toNat)) - 1))) = (IntKind.u64.wrap (2 ^ ((ji4) - 1).toNat)) then (if (Go.bits .and .i64 (a0 / 2 ^ (ji4).toNat) 1) = 1 then (some (wrap64 ((a0 / 2 ^ (ji4).toNat) + 1))) else (some (a0 / 2 ^ (ji4).toNat))) else (some (a0 / 2 ^ (ji4).toNat)))) else (none)) else (some (a0 / 2 ^ (ji4).toNat))) = some r := by first | (rw [hji4] at H; exact H) | (simp only [hji4] at H ⊢; exact H)
  have hji4_ : (if 62 < (ji3) then 62 else (ji3)) = ji4 := hji4
  by_cases c5 : (ji4) > 0
  · rw [if_pos c5] at H
    have c5b0 : decide (0 < (ji4)) = true := decide_eq_true c5
    clear c5
    obtain ⟨ji6, hji6⟩ : ∃ j_ : Int, ((ji4) - 1) = j_ := ⟨_, rfl⟩
    have hji6u : ji6 ≤ 61 := by
      have h := hji4_
      split at h <;> omega
    replace H : (if 0 ≤ (ji6) then (if (Go.bits .and .u64 (IntKind.u64.wrap (a0)) (IntKind.u64.wrap ((IntKind.u64.wrap (2 ^ (ji4).toNat)) - 1))) > (IntKind.u64.wrap (2 ^ (ji6).toNat)) then (some (wrap64 ((a0 / 2 ^ (ji4).toNat) + 1))) else (if (Go.bits .and .u64 (IntKind.u64.wrap (a0)) (IntKind.u64.wrap ((IntKind.u64.wrap (2 ^ (ji4).toNat)) - 1))) = (IntKind.u64.wrap (2 ^ (ji6).toNat)) then (if (Go.bits .and .i64 (a0 / 2 ^ (ji4).toNat) 1) = 1 then (some (wrap64 ((a0 / 2 ^ (ji4).toNat) + 1))) else (some (a0 / 2 ^ (ji4).toNat))) else (some (a0 / 2 ^ (ji4).toNat)))) else (none)) = some r := by first | (rw [hji6] at H; exact H) | (simp only [hji6] at H ⊢; exact H)
    by_cases c7 : 0 ≤ (ji6)
    · rw [if_pos c7] at H
      have c7b0 := eq_true c7
      have c7b1 : decide (0 ≤ (ji6)) = true := decide_eq_true c7
      clear c7
      by_cases c8 : (Go.bits .and .u64 (IntKind.u64.wrap (a0)) (IntKind.u64.wrap ((IntKind.u64.wrap (2 ^ (ji4).toNat)) - 1))) > (IntKind.u64.wrap (2 ^ (ji6).toNat))
      · rw [if_pos c8] at H
        have c8b0 : decide ((IntKind.u64.wrap (2 ^ (ji6).toNat)) < (Go.bits .and .u64 (IntKind.u64.wrap (a0)) (IntKind.u64.wrap ((IntKind.u64.wrap (2 ^ (ji4).toNat)) - 1)))) = true := decide_eq_true c8
        rw [show ji6.toNat = min ji6.toNat 64 by omega] at c8b0
        clear c8
        obtain rfl := Option.some.inj H
        go_enter Try.func36, Try.ntmps36
        go_wp2
        go_ret
        exact ⟨by first | rfl | (simp [errW_none, errW_some] <;> rfl) | (simp only [← hji3, ← hji4, ← hji6]; first | rfl | (simp [errW_none, errW_some] <;> rfl)) | (simp [*, errW_none, errW_some] <;> rfl), by repeat (first | (with_reducible first | exact HB.out | apply below_alloc | apply pw_below_drewN | apply below_drew1) | exact HB.out)⟩
      · rw [if_neg c8] at H
        have c8b0 : decide ((IntKind.u64.wrap (2 ^ (ji6).toNat)) < (Go.bits .and .u64 (IntKind.u64.wrap (a0)) (IntKind.u64.wrap ((IntKind.u64.wrap (2 ^ (ji4).toNat)) - 1)))) = false := decide_eq_false c8
        rw [show ji6.toNat = min ji6.toNat 64 by omega] at c8b0
        clear c8
        have c9b0 := eq_true (of_decide_eq_true (by first | (with_reducible assumption) | assumption) : 0 ≤ (ji6))
        by_cases c10 : (Go.bits .and .u64 (IntKind.u64.wrap (a0)) (IntKind.u64.wrap ((IntKind.u64.wrap (2 ^ (ji4).toNat)) - 1))) = (IntKind.u64.wrap (2 ^ (ji6).toNat))
        · rw [if_pos c10] at H
          have c10b0 : ((Go.bits .and .u64 (IntKind.u64.wrap (a0)) (IntKind.u64.wrap ((IntKind.u64.wrap (2 ^ (ji4).toNat)) - 1))) == (IntKind.u64.wrap (2 ^ (ji6).toNat))) = true := beq_iff_eq.mpr c10
          rw [show ji6.toNat = min ji6.toNat 64 by omega] at c10b0
          have c10b1 : ((Go.bits .and .u64 (IntKind.u64.wrap (a0)) (IntKind.u64.wrap ((IntKind.u64.wrap (2 ^ (ji4).toNat)) - 1))) != (IntKind.u64.wrap (2 ^ (ji6).toNat))) = false := bne_eq_false_iff_eq.mpr c10
          rw [show ji6.toNat = min ji6.toNat 64 by omega] at c10b1
          clear c10
          by_cases c11 : (Go.bits .and .i64 (a0 / 2 ^ (ji4).toNat) 1) = 1
          · rw [if_pos c11] at H
            have c11b0 : ((Go.bits .and .i64 (a0 / 2 ^ (ji4).toNat) 1) == 1) = true := beq_iff_eq.mpr c11
            have c11b1 : ((Go.bits .and .i64 (a0 / 2 ^ (ji4).toNat) 1) != 1) = false := bne_eq_false_iff_eq.mpr c11
            clear c11
            obtain rfl := Option.some.inj H
            go_enter Try.func36, Try.ntmps36
            go_wp2
            go_ret
            exact ⟨by first | rfl | (simp [errW_none, errW_some] <;> rfl) | (simp only [← hji3, ← hji4, ← hji6]; first | rfl | (simp [errW_none, errW_some] <;> rfl)) | (simp [*, errW_none, errW_some] <;> rfl), by repeat (first | (with_reducible first | exact HB.out | apply below_alloc | apply pw_below_drewN | apply below_drew1) | exact HB.out)⟩
          · rw [if_neg c11] at H
            have c11b0 : ((Go.bits .and .i64 (a0 / 2 ^ (ji4).toNat) 1) == 1) = false := beq_eq_false_iff_ne.mpr c11
            have c11b1 : ((Go.bits .and .i64 (a0 / 2 ^ (ji4).toNat) 1) != 1) = true := bne_iff_ne.mpr c11
            obtain rfl := Option.some.inj H
            go_enter Try.func36, Try.ntmps36
            go_wp2
            go_ret
            exact ⟨by first | rfl | (simp [errW_none, errW_some] <;> rfl) | (simp only [← hji3, ← hji4, ← hji6]; first | rfl | (simp [errW_none, errW_some] <;> rfl)) | (simp [*, errW_none, errW_some] <;> rfl), by repeat (first | (with_reducible first | exact HB.out | apply below_alloc | apply pw_below_drewN | apply below_drew1) | exact HB.out)⟩
        · rw [if_neg c10] at H
          have c10b0 : ((Go.bits .and .u64 (IntKind.u64.wrap (a0)) (IntKind.u64.wrap ((IntKind.u64.wrap (2 ^ (ji4).toNat)) - 1))) == (IntKind.u64.wrap (2 ^ (ji6).toNat))) = false := beq_eq_false_iff_ne.mpr c10
          rw [show ji6.toNat = min ji6.toNat 64 by omega] at c10b0
          have c10b1 : ((Go.bits .and .u64 (IntKind.u64.wrap (a0)) (IntKind.u64.wrap ((IntKind.u64.wrap (2 ^ (ji4).toNat)) - 1))) != (IntKind.u64.wrap (2 ^ (ji6).toNat))) = true := bne_iff_ne.mpr c10
          rw [show ji6.toNat = min ji6.toNat 64 by omega] at c10b1
          obtain rfl := Option.some.inj H
          go_enter Try.func36, Try.ntmps36
          go_wp2
          go_ret
          exact ⟨by first | rfl | (simp [errW_none, errW_some] <;> rfl) | (simp only [← hji3, ← hji4, ← hji6]; first | rfl | (simp [errW_none, errW_some] <;> rfl)) | (simp [*, errW_none, errW_some] <;> rfl), by repeat (first | (with_reducible first | exact HB.out | apply below_alloc | apply pw_below_drewN | apply below_drew1) | exact HB.out)⟩
    · rw [if_neg c7] at H
      exact absurd H (by simp)
  · rw [if_neg c5] at H
    have c5b0 : decide (0 < (ji4)) = false := decide_eq_false c5
    clear c5
    obtain rfl := Option.some.inj H
    go_enter Try.func36, Try.ntmps36
    go_wp2
    go_ret
    exact ⟨by first | rfl | (simp [errW_none, errW_some] <;> rfl) | (simp only [← hji3, ← hji4]; first | rfl | (simp [errW_none, errW_some] <;> rfl)) | (simp [*, errW_none, errW_some] <;> rfl), by repeat (first | (with_reducible first | exact HB.out | apply below_alloc | apply pw_below_drewN | apply below_drew1) | exact HB.out)⟩

-- NOT PRINTED: function 21 (quat_Small)

-- NOT PRINTED: function 8 (alidadelaw04_QuatSmalls)

end Go.Proofs.Ytmjncjaalleblaa.PQ
