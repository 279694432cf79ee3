import Derived.Test.YtmjncjaalleblaaQE
/- Layer 4: what is right. -/
namespace Go.Proofs.Ytmjncjaalleblaa.PQ
open Go.RowKit Go.Proofs.YtmjncjaalleblaaW.PrintWords Go.Proofs.YtmjncjaalleblaaW.PrintLast Go.Proofs.YtmjncjaalleblaaW.PrintMore
set_option linter.unusedVariables false
set_option linter.unusedSimpArgs false
def inB (a : Int) : Bool := !(decide (a < -70368744177664)) && !(decide (70368744177663 < a))
def rightN (p : Nat → Int) : Nat → Bool
  | 0 => true
  | k + 1 => rightN p k && inB (p k)
theorem rightN_false {p : Nat → Int} {k n : Nat} (h : inB (p k) = false) (hk : k < n) : rightN p n = false := by
  induction n with
  | zero => omega
  | succ n ih =>
    rcases Nat.lt_or_ge k n with hl | hl
    · simp [rightN, ih hl]
    · obtain rfl : k = n := by omega
      simp [rightN, h]
set_option maxHeartbeats 2000000 in
theorem right_calls (a b c d : Int) (w : World) :
    Calls Try.prog 20 #[.agg #[.int .i64 a, .int .i64 b, .int .i64 c, .int .i64 d]] w fun e w' =>
      e = .returned (.bool (rightN (at4 a b c d) 4)) ∧ Below w.heap.size w w' := by
  go_enter Try.func20, Try.ntmps20
  go_wp2
  go_loopw [6] (fun i wr => ∃ k : Nat, k ≤ 4 ∧ i = .int .i64 k ∧ rightN (at4 a b c d) k = true ∧ Hid (Below w.heap.size w wr)) (fun i _ => 4 - (intOf i).toNat)
  case atStart => exact ⟨0, by omega, rfl, rfl, Lib.hid ((Below.refl _ w).alloc (by simp) _)⟩
  case round =>
    obtain ⟨k, hk, rfl, hr, M⟩ := hrel
    have key : ∀ n x, n < 4 → at4 a b c d n = x → k = n → x < -70368744177664 → rightN (at4 a b c d) 4 = false := fun n x hn hx hk' hlt => rightN_false (k := n) (by simp [inB, hx, hlt]) hn
    have key2 : ∀ n x, n < 4 → at4 a b c d n = x → k = n → 70368744177663 < x → rightN (at4 a b c d) 4 = false := fun n x hn hx hk' hlt => rightN_false (k := n) (by simp [inB, hx, hlt]) hn
    have key3 : ∀ n x, n < 4 → at4 a b c d n = x → k = n → ¬ x < -70368744177664 → ¬ 70368744177663 < x → rightN (at4 a b c d) (n + 1) = true := fun n x hn hx hk' h1 h2 => by
      subst hk'
      have e : rightN (at4 a b c d) (k + 1) = (rightN (at4 a b c d) k && inB (at4 a b c d k)) := rfl
      rw [e, hr, hx]; simp [inB, h1, h2]
    have K1 := Lib.hid key
    have K2 := Lib.hid key2
    have K3 := Lib.hid key3
    have R := Lib.hid hr
    clear key key2 key3 hr
    obtain rfl | rfl | rfl | rfl | rfl : k = 0 ∨ k = 1 ∨ k = 2 ∨ k = 3 ∨ k = 4 := by omega
    · have ix : (Instr.index 24 (.agg #[.int .i64 a, .int .i64 b, .int .i64 c, .int .i64 d]) (.int .i64 0)).run Try.prog wr = .ok (.int .i64 a) wr := by kernel_rfl
      by_cases h1 : a < -70368744177664
      · have rf := K1.out 0 a (by omega) rfl rfl h1
        have d1 : decide (a < -70368744177664) = true := decide_eq_true h1
        go_wp2
        go_ret
        exact ⟨rfl, M.out⟩
      · have d1 : decide (a < -70368744177664) = false := decide_eq_false h1
        by_cases h2 : 70368744177663 < a
        · have rf := K2.out 0 a (by omega) rfl rfl h2
          have d2 : decide (70368744177663 < a) = true := decide_eq_true h2
          go_wp2
          go_ret
          exact ⟨rfl, M.out⟩
        · have rt := Lib.hid (K3.out 0 a (by omega) rfl rfl h1 h2)
          have d2 : decide (70368744177663 < a) = false := decide_eq_false h2
          go_wp2
          go_roundw
          case rel => exact ⟨0 + 1, by omega, by go_num, rt.out, M⟩
          case measure => simp [intOf]
    · have ix : (Instr.index 24 (.agg #[.int .i64 a, .int .i64 b, .int .i64 c, .int .i64 d]) (.int .i64 1)).run Try.prog wr = .ok (.int .i64 b) wr := by kernel_rfl
      by_cases h1 : b < -70368744177664
      · have rf := K1.out 1 b (by omega) rfl rfl h1
        have d1 : decide (b < -70368744177664) = true := decide_eq_true h1
        go_wp2
        go_ret
        exact ⟨rfl, M.out⟩
      · have d1 : decide (b < -70368744177664) = false := decide_eq_false h1
        by_cases h2 : 70368744177663 < b
        · have rf := K2.out 1 b (by omega) rfl rfl h2
          have d2 : decide (70368744177663 < b) = true := decide_eq_true h2
          go_wp2
          go_ret
          exact ⟨rfl, M.out⟩
        · have rt := Lib.hid (K3.out 1 b (by omega) rfl rfl h1 h2)
          have d2 : decide (70368744177663 < b) = false := decide_eq_false h2
          go_wp2
          go_roundw
          case rel => exact ⟨1 + 1, by omega, by go_num, rt.out, M⟩
          case measure => simp [intOf]
    · have ix : (Instr.index 24 (.agg #[.int .i64 a, .int .i64 b, .int .i64 c, .int .i64 d]) (.int .i64 2)).run Try.prog wr = .ok (.int .i64 c) wr := by kernel_rfl
      by_cases h1 : c < -70368744177664
      · have rf := K1.out 2 c (by omega) rfl rfl h1
        have d1 : decide (c < -70368744177664) = true := decide_eq_true h1
        go_wp2
        go_ret
        exact ⟨rfl, M.out⟩
      · have d1 : decide (c < -70368744177664) = false := decide_eq_false h1
        by_cases h2 : 70368744177663 < c
        · have rf := K2.out 2 c (by omega) rfl rfl h2
          have d2 : decide (70368744177663 < c) = true := decide_eq_true h2
          go_wp2
          go_ret
          exact ⟨rfl, M.out⟩
        · have rt := Lib.hid (K3.out 2 c (by omega) rfl rfl h1 h2)
          have d2 : decide (70368744177663 < c) = false := decide_eq_false h2
          go_wp2
          go_roundw
          case rel => exact ⟨2 + 1, by omega, by go_num, rt.out, M⟩
          case measure => simp [intOf]
    · have ix : (Instr.index 24 (.agg #[.int .i64 a, .int .i64 b, .int .i64 c, .int .i64 d]) (.int .i64 3)).run Try.prog wr = .ok (.int .i64 d) wr := by kernel_rfl
      by_cases h1 : d < -70368744177664
      · have rf := K1.out 3 d (by omega) rfl rfl h1
        have d1 : decide (d < -70368744177664) = true := decide_eq_true h1
        go_wp2
        go_ret
        exact ⟨rfl, M.out⟩
      · have d1 : decide (d < -70368744177664) = false := decide_eq_false h1
        by_cases h2 : 70368744177663 < d
        · have rf := K2.out 3 d (by omega) rfl rfl h2
          have d2 : decide (70368744177663 < d) = true := decide_eq_true h2
          go_wp2
          go_ret
          exact ⟨rfl, M.out⟩
        · have rt := Lib.hid (K3.out 3 d (by omega) rfl rfl h1 h2)
          have d2 : decide (70368744177663 < d) = false := decide_eq_false h2
          go_wp2
          go_roundw
          case rel => exact ⟨3 + 1, by omega, by go_num, rt.out, M⟩
          case measure => simp [intOf]
    · go_wp2
      go_ret
      exact ⟨by rw [R.out]; rfl, M.out⟩
theorem in_calls (a : Int) (w : World) : Calls Try.prog 22 #[.int .i64 a] w fun e w' => e = .returned (.bool (inB a)) ∧ Below w.heap.size w w' := by
  have h := alidaderef01_In.calls a (inB a) w (by rw [in_f]; congr 1; unfold inB; rw [Bool.eq_iff_iff]; simp)
  exact h.mono fun e w' hx => ⟨hx.1, hx.2.below⟩
set_option maxHeartbeats 2000000 in
theorem refRight_calls (a b c d : Int) (w : World) :
    Calls Try.prog 10 #[.agg #[.int .i64 a, .int .i64 b, .int .i64 c, .int .i64 d]] w fun e w' =>
      e = .returned (.bool (rightN (at4 a b c d) 4)) ∧ Below w.heap.size w w' := by
  go_enter Try.func10, Try.ntmps10
  go_wp2
  go_loopw [3] (fun i wr => ∃ k : Nat, k ≤ 4 ∧ i = .int .i64 k ∧ rightN (at4 a b c d) k = true ∧ Hid (Scene w [(24, q4 a b c d)] wr)) (fun i _ => 4 - (intOf i).toNat)
  case atStart => exact ⟨0, by omega, rfl, rfl, Lib.hid ((Scene.none w).push (by simp) _ _)⟩
  case round =>
    obtain ⟨k, hk, rfl, hr, M⟩ := hrel
    have key : ∀ n x, n < 4 → at4 a b c d n = x → k = n → inB x = false → rightN (at4 a b c d) 4 = false := fun n x hn hx hk' hlt => rightN_false (k := n) (by rw [hx, hlt]) hn
    have key3 : ∀ n x, n < 4 → at4 a b c d n = x → k = n → inB x = true → rightN (at4 a b c d) (n + 1) = true := fun n x hn hx hk' h1 => by
      subst hk'
      have e : rightN (at4 a b c d) (k + 1) = (rightN (at4 a b c d) k && inB (at4 a b c d k)) := rfl
      rw [e, hr, hx, h1]; rfl
    have K1 := Lib.hid key
    have K3 := Lib.hid key3
    have R := Lib.hid hr
    clear key key3 hr
    obtain rfl | rfl | rfl | rfl | rfl : k = 0 ∨ k = 1 ∨ k = 2 ∨ k = 3 ∨ k = 4 := by omega
    · have cx := M.out.r0.cell 0
      go_wp2_with fail
      refine (in_calls a _).mono ?_
      rintro e w1 ⟨rfl, hb⟩
      have M1 := Lib.hid (M.out.below hb)
      clear hb M cx
      cases hi : inB a
      · have rf := K1.out 0 a (by omega) rfl rfl hi
        go_wp2
        go_ret
        exact ⟨by first | rfl | (rw [rf]; rfl), M1.out.be⟩
      · have rt := Lib.hid (K3.out 0 a (by omega) rfl rfl hi)
        go_wp2
        go_roundw
        case rel => exact ⟨0 + 1, by omega, by go_num, rt.out, M1⟩
        case measure => simp [intOf]
    · have cx := M.out.r0.cell 1
      go_wp2_with fail
      refine (in_calls b _).mono ?_
      rintro e w1 ⟨rfl, hb⟩
      have M1 := Lib.hid (M.out.below hb)
      clear hb M cx
      cases hi : inB b
      · have rf := K1.out 1 b (by omega) rfl rfl hi
        go_wp2
        go_ret
        exact ⟨by first | rfl | (rw [rf]; rfl), M1.out.be⟩
      · have rt := Lib.hid (K3.out 1 b (by omega) rfl rfl hi)
        go_wp2
        go_roundw
        case rel => exact ⟨1 + 1, by omega, by go_num, rt.out, M1⟩
        case measure => simp [intOf]
    · have cx := M.out.r0.cell 2
      go_wp2_with fail
      refine (in_calls c _).mono ?_
      rintro e w1 ⟨rfl, hb⟩
      have M1 := Lib.hid (M.out.below hb)
      clear hb M cx
      cases hi : inB c
      · have rf := K1.out 2 c (by omega) rfl rfl hi
        go_wp2
        go_ret
        exact ⟨by first | rfl | (rw [rf]; rfl), M1.out.be⟩
      · have rt := Lib.hid (K3.out 2 c (by omega) rfl rfl hi)
        go_wp2
        go_roundw
        case rel => exact ⟨2 + 1, by omega, by go_num, rt.out, M1⟩
        case measure => simp [intOf]
    · have cx := M.out.r0.cell 3
      go_wp2_with fail
      refine (in_calls d _).mono ?_
      rintro e w1 ⟨rfl, hb⟩
      have M1 := Lib.hid (M.out.below hb)
      clear hb M cx
      cases hi : inB d
      · have rf := K1.out 3 d (by omega) rfl rfl hi
        go_wp2
        go_ret
        exact ⟨by first | rfl | (rw [rf]; rfl), M1.out.be⟩
      · have rt := Lib.hid (K3.out 3 d (by omega) rfl rfl hi)
        go_wp2
        go_roundw
        case rel => exact ⟨3 + 1, by omega, by go_num, rt.out, M1⟩
        case measure => simp [intOf]
    · go_wp2
      go_ret
      exact ⟨by rw [R.out]; rfl, M.out.be⟩
end Go.Proofs.Ytmjncjaalleblaa.PQ
