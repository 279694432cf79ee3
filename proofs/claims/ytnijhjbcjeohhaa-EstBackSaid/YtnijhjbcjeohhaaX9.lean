import Derived.Test.YtnijhjbcjeohhaaX4
import Derived.LoopTactic
import Derived.Lib.Hide
import Derived.Deep.RegionHeld3
import Derived.Laws.AppendOwn
import Derived.Deep.WholeRow
import Derived.ChangeKeysEq
/- Joined and thinned by a program of this session's own (wip/pack2.py) out of its texts (wip/ of its repo); parts were laid by its own program (wip/print-patch.py over the kit's print) out of the translation; Lean checks all. -/
set_option maxRecDepth 100000
set_option maxHeartbeats 2000000
namespace Go.Proofs.Ytnijhjbcjeohhaa.PQ
open Go.RowKit Go.Proofs.af.aF Go.Proofs.af.aP Go.Proofs.af.aQ
set_option linter.unusedVariables false
set_option linter.unusedSimpArgs false
def Row (w : World) (B : Nat) (t : TypeId) (cs : Array Value) : Prop := w.heap[B]? = some (.cells cs t (0, 0))
end Go.Proofs.Ytnijhjbcjeohhaa.PQ

namespace Go.Proofs.Ytnijhjbcjeohhaa.PQ
open Go.RowKit
def Bo : Array Value := #[.int .i64 0, .int .i64 0, .int .i64 1, .int .i64 1, .int .i64 1, .int .i64 (-1), .int .i64 2, .int .i64 2, .int .i64 (-1), .int .i64 3, .int .i64 3, .int .i64 (-1),
 .int .i64 0, .int .i64 1, .int .i64 1, .int .i64 1, .int .i64 0, .int .i64 1, .int .i64 2, .int .i64 3, .int .i64 1, .int .i64 3, .int .i64 2, .int .i64 (-1),
 .int .i64 0, .int .i64 2, .int .i64 1, .int .i64 1, .int .i64 3, .int .i64 (-1), .int .i64 2, .int .i64 0, .int .i64 1, .int .i64 3, .int .i64 1, .int .i64 1,
 .int .i64 0, .int .i64 3, .int .i64 1, .int .i64 1, .int .i64 2, .int .i64 1, .int .i64 2, .int .i64 1, .int .i64 (-1), .int .i64 3, .int .i64 0, .int .i64 1]
end Go.Proofs.Ytnijhjbcjeohhaa.PQ

namespace Go.Proofs.Ytnijhjbcjeohhaa.PQ
open Go.RowKit Go.Proofs.af.aF Go.Proofs.af.aP Go.Proofs.af.aQ
set_option linter.unusedVariables false
set_option linter.unusedSimpArgs false
theorem ix0 (w : World) : (Instr.index 143 (.agg Bo) (.int .i64 0)).run Try.prog w = .ok (.agg #[.int .i64 0, .int .i64 0, .int .i64 1, .int .i64 1, .int .i64 1, .int .i64 (-1), .int .i64 2, .int .i64 2, .int .i64 (-1), .int .i64 3, .int .i64 3, .int .i64 (-1)]) w := by kernel_rfl
theorem ix1 (w : World) : (Instr.index 143 (.agg Bo) (.int .i64 1)).run Try.prog w = .ok (.agg #[.int .i64 0, .int .i64 1, .int .i64 1, .int .i64 1, .int .i64 0, .int .i64 1, .int .i64 2, .int .i64 3, .int .i64 1, .int .i64 3, .int .i64 2, .int .i64 (-1)]) w := by kernel_rfl
theorem ix2 (w : World) : (Instr.index 143 (.agg Bo) (.int .i64 2)).run Try.prog w = .ok (.agg #[.int .i64 0, .int .i64 2, .int .i64 1, .int .i64 1, .int .i64 3, .int .i64 (-1), .int .i64 2, .int .i64 0, .int .i64 1, .int .i64 3, .int .i64 1, .int .i64 1]) w := by kernel_rfl
end Go.Proofs.Ytnijhjbcjeohhaa.PQ

namespace Go.Proofs.Ytnijhjbcjeohhaa.PQ
open Go.RowKit Go.Proofs.af.aF Go.Proofs.af.aP Go.Proofs.af.aQ
set_option linter.unusedVariables false
set_option linter.unusedSimpArgs false
def Rows (w : World) : Nat → List (TypeId × Array Value) → Prop
 | _, [] => True
 | b, x :: l => Row w b x.1 x.2 ∧ Rows w (b + 1) l
structure aV (w0 : World) (L : List (TypeId × Array Value)) (w : World) : Prop where
 rows : Rows w w0.heap.size L
 be : Below w0.heap.size w0 w
section
variable {w w' w0 : World} {L : List (TypeId × Array Value)}
variable {x0 x1 x2 x3 x4 x5 : TypeId × Array Value}
theorem aV.r5 (h : aV w0 (x0 :: x1 :: x2 :: x3 :: x4 :: x5 :: L) w) : Row w (w0.heap.size + 1 + 1 + 1 + 1 + 1) x5.1 x5.2 := h.rows.2.2.2.2.2.1
end
abbrev q4 (a b c d : Int) : Array Value := #[.int .i64 a, .int .i64 b, .int .i64 c, .int .i64 d]
end Go.Proofs.Ytnijhjbcjeohhaa.PQ

namespace Go.Proofs.Ytnijhjbcjeohhaa.PQ
open Go.RowKit Go.Proofs.af.aF Go.Proofs.af.aP Go.Proofs.af.aQ
set_option linter.unusedVariables false
set_option linter.unusedSimpArgs false
def at4 (a b c d : Int) : Nat → Int
 | 0 => a
 | 1 => b
 | 2 => c
 | _ => d
end Go.Proofs.Ytnijhjbcjeohhaa.PQ

namespace Go.Proofs.Ytnijhjbcjeohhaa.PQ
open Go.RowKit Go.Proofs.af.aF Go.Proofs.af.aP Go.Proofs.af.aQ
set_option linter.unusedVariables false
set_option linter.unusedSimpArgs false
def inB (a : Int) : Bool := !(decide (a < -70368744177664)) && !(decide (70368744177663 < a))
def iG (p : Nat → Int) : Nat → Bool
 | 0 => true
 | k + 1 => iG p k && inB (p k)
theorem qN {p : Nat → Int} {k n : Nat} (h : inB (p k) = false) (hk : k < n) : iG p n = false := by
 induction n with
 | zero => omega
 | succ n ih =>
   rcases Nat.lt_or_ge k n with hl | hl
   · simp [iG, ih hl]
   · obtain rfl : k = n := by omega
     simp [iG, h]
theorem ig (a b c d : Int) (w : World) :
 Calls Try.prog 47 #[.agg #[.int .i64 a, .int .i64 b, .int .i64 c, .int .i64 d]] w fun e w' =>
  e = .returned (.bool (iG (at4 a b c d) 4)) ∧ Below w.heap.size w w' := by
 go_enter Try.func47, Try.ntmps47
 go_wp2
 go_loopw [6] (fun i wr => ∃ k : Nat, k ≤ 4 ∧ i = .int .i64 k ∧ iG (at4 a b c d) k = true ∧ Hid (Below w.heap.size w wr)) (fun i _ => 4 - (intOf i).toNat)
 case atStart => exact ⟨0, by omega, rfl, rfl, Lib.hid ((Below.refl _ w).alloc (by simp) _)⟩
 case round =>
  obtain ⟨k, hk, rfl, hr, M⟩ := hrel
  have key : ∀ n x, n < 4 → at4 a b c d n = x → k = n → x < -70368744177664 → iG (at4 a b c d) 4 = false := fun n x hn hx hk' hlt => qN (k := n) (by simp [inB, hx, hlt]) hn
  have Qj : ∀ n x, n < 4 → at4 a b c d n = x → k = n → 70368744177663 < x → iG (at4 a b c d) 4 = false := fun n x hn hx hk' hlt => qN (k := n) (by simp [inB, hx, hlt]) hn
  have Qi : ∀ n x, n < 4 → at4 a b c d n = x → k = n → ¬ x < -70368744177664 → ¬ 70368744177663 < x → iG (at4 a b c d) (n + 1) = true := fun n x hn hx hk' h1 h2 => by
   subst hk'
   have e : iG (at4 a b c d) (k + 1) = (iG (at4 a b c d) k && inB (at4 a b c d k)) := rfl
   rw [e, hr, hx]; simp [inB, h1, h2]
  have K1 := Lib.hid key
  have K2 := Lib.hid Qj
  have K3 := Lib.hid Qi
  have R := Lib.hid hr
  clear key Qj Qi hr
  obtain rfl | rfl | rfl | rfl | rfl : k = 0 ∨ k = 1 ∨ k = 2 ∨ k = 3 ∨ k = 4 := by omega
  · have ix : (Instr.index 28 (.agg #[.int .i64 a, .int .i64 b, .int .i64 c, .int .i64 d]) (.int .i64 0)).run Try.prog wr = .ok (.int .i64 a) wr := by kernel_rfl
    by_cases h1 : a < -70368744177664
    · have rf := K1.out 0 a (by omega) rfl rfl h1
      have d1 : decide (a < -70368744177664) = true := decide_eq_true h1
      go_wp2
      go_ret
      exact ⟨rfl, M.out⟩
    · have d1 : decide (a < -70368744177664) = false := decide_eq_false h1
      by_cases h2 : 70368744177663 < a
      · have rf := K2.out 0 a (by omega) rfl rfl h2
        have d2 : decide (70368744177663 < a) = true := decide_eq_true h2
        go_wp2
        go_ret
        exact ⟨rfl, M.out⟩
      · have rt := Lib.hid (K3.out 0 a (by omega) rfl rfl h1 h2)
        have d2 : decide (70368744177663 < a) = false := decide_eq_false h2
        go_wp2
        go_roundw
        case rel => exact ⟨0 + 1, by omega, by go_num, rt.out, M⟩
        case measure => simp [intOf]
  · have ix : (Instr.index 28 (.agg #[.int .i64 a, .int .i64 b, .int .i64 c, .int .i64 d]) (.int .i64 1)).run Try.prog wr = .ok (.int .i64 b) wr := by kernel_rfl
    by_cases h1 : b < -70368744177664
    · have rf := K1.out 1 b (by omega) rfl rfl h1
      have d1 : decide (b < -70368744177664) = true := decide_eq_true h1
      go_wp2
      go_ret
      exact ⟨rfl, M.out⟩
    · have d1 : decide (b < -70368744177664) = false := decide_eq_false h1
      by_cases h2 : 70368744177663 < b
      · have rf := K2.out 1 b (by omega) rfl rfl h2
        have d2 : decide (70368744177663 < b) = true := decide_eq_true h2
        go_wp2
        go_ret
        exact ⟨rfl, M.out⟩
      · have rt := Lib.hid (K3.out 1 b (by omega) rfl rfl h1 h2)
        have d2 : decide (70368744177663 < b) = false := decide_eq_false h2
        go_wp2
        go_roundw
        case rel => exact ⟨1 + 1, by omega, by go_num, rt.out, M⟩
        case measure => simp [intOf]
  · have ix : (Instr.index 28 (.agg #[.int .i64 a, .int .i64 b, .int .i64 c, .int .i64 d]) (.int .i64 2)).run Try.prog wr = .ok (.int .i64 c) wr := by kernel_rfl
    by_cases h1 : c < -70368744177664
    · have rf := K1.out 2 c (by omega) rfl rfl h1
      have d1 : decide (c < -70368744177664) = true := decide_eq_true h1
      go_wp2
      go_ret
      exact ⟨rfl, M.out⟩
    · have d1 : decide (c < -70368744177664) = false := decide_eq_false h1
      by_cases h2 : 70368744177663 < c
      · have rf := K2.out 2 c (by omega) rfl rfl h2
        have d2 : decide (70368744177663 < c) = true := decide_eq_true h2
        go_wp2
        go_ret
        exact ⟨rfl, M.out⟩
      · have rt := Lib.hid (K3.out 2 c (by omega) rfl rfl h1 h2)
        have d2 : decide (70368744177663 < c) = false := decide_eq_false h2
        go_wp2
        go_roundw
        case rel => exact ⟨2 + 1, by omega, by go_num, rt.out, M⟩
        case measure => simp [intOf]
  · have ix : (Instr.index 28 (.agg #[.int .i64 a, .int .i64 b, .int .i64 c, .int .i64 d]) (.int .i64 3)).run Try.prog wr = .ok (.int .i64 d) wr := by kernel_rfl
    by_cases h1 : d < -70368744177664
    · have rf := K1.out 3 d (by omega) rfl rfl h1
      have d1 : decide (d < -70368744177664) = true := decide_eq_true h1
      go_wp2
      go_ret
      exact ⟨rfl, M.out⟩
    · have d1 : decide (d < -70368744177664) = false := decide_eq_false h1
      by_cases h2 : 70368744177663 < d
      · have rf := K2.out 3 d (by omega) rfl rfl h2
        have d2 : decide (70368744177663 < d) = true := decide_eq_true h2
        go_wp2
        go_ret
        exact ⟨rfl, M.out⟩
      · have rt := Lib.hid (K3.out 3 d (by omega) rfl rfl h1 h2)
        have d2 : decide (70368744177663 < d) = false := decide_eq_false h2
        go_wp2
        go_roundw
        case rel => exact ⟨3 + 1, by omega, by go_num, rt.out, M⟩
        case measure => simp [intOf]
  · go_wp2
    go_ret
    exact ⟨by rw [R.out]; rfl, M.out⟩
end Go.Proofs.Ytnijhjbcjeohhaa.PQ

namespace Go.Proofs.Ytnijhjbcjeohhaa.PQ
open Go.RowKit Go.Proofs.af.aF Go.Proofs.af.aP Go.Proofs.af.aQ
set_option linter.unusedVariables false
set_option linter.unusedSimpArgs false
theorem Gy (xs : Array Value) (k : Nat) (x : Int) (h : xs[k]? = some (.int .i64 x)) (w : World) : (part 22 xs k).run Try.prog w = .ok (.int .i64 x) w := by
 simp [part, go_sem, h]
theorem qA (a e : Int) (xs ys : Array Value) (k : Nat) (hx : xs[k]? = some (.int .i64 a)) (hy : ys[k]? = some (.int .i64 e)) (ks : List Nat) (r : Bool) (w : World)
 (h : (Op.eqItems 9999 22 1 xs ys ks).run Try.prog w = .ok r w) : (Op.eqItems 9999 22 1 xs ys (k :: ks)).run Try.prog w = .ok ((a == e) && r) w := by
 have p1 := Gy xs (k * 1) a (by simpa using hx) w
 have p2 := Gy ys (k * 1) e (by simpa using hy) w
 have p3 := run_equalIn_int w (P := Try.prog) 9998 22 .i64 .i64 a e rfl
 simp only [Op.eqItems, Sem.run_bind, p1, p2, p3, Result.andThen_ok]
 cases hr : (a == e)
 · simp
 · simpa using h
theorem XR (a b c e f g : Int) (w : World) :
 (Op.equalIn 10000 42 (.agg #[.int .i64 a, .int .i64 b, .int .i64 c]) (.agg #[.int .i64 e, .int .i64 f, .int .i64 g])).run Try.prog w = .ok ((a == e) && ((b == f) && ((c == g) && true))) w := by
 rw [run_equalIn_array (P := Try.prog) (w := w) 9999 (e := 22) (n := 3) (i := _) _ _ rfl rfl]
 exact qA _ _ _ _ 0 rfl rfl _ _ w (qA _ _ _ _ 1 rfl rfl _ _ w (qA _ _ _ _ 2 rfl rfl _ _ w (by simp [Op.eqItems])))
end Go.Proofs.Ytnijhjbcjeohhaa.PQ

namespace Go.Proofs.Ytnijhjbcjeohhaa.PQ
set_option linter.unusedVariables false
set_option linter.unusedSimpArgs false
abbrev V8 (z : Int) : Prop := -70368744177664 ≤ z ∧ z ≤ 70368744177663
end Go.Proofs.Ytnijhjbcjeohhaa.PQ

namespace Go.Proofs.Ytnijhjbcjeohhaa.PQ
set_option linter.unusedVariables false
set_option linter.unusedSimpArgs false
def hm1 (a b c d e f g h : Int) : Int := a * f + b * e + c * h + -(d * g)
def hm2 (a b c d e f g h : Int) : Int := a * g + -(b * h) + c * e + d * f
def U1 (a b c d e f g h : Int) : Int := a * h + b * g + -(c * f) + d * e
end Go.Proofs.Ytnijhjbcjeohhaa.PQ

namespace Go.Proofs.Ytnijhjbcjeohhaa.PQ
open Go.RowKit Go.Proofs.af.aF Go.Proofs.af.aP Go.Proofs.af.aQ
set_option linter.unusedVariables false
set_option linter.unusedSimpArgs false
abbrev b4 (a b c d : Int) : Array Value := #[.int .i8 a, .int .i8 b, .int .i8 c, .int .i8 d]
def w8 (m : Int) (p : Nat → Int) (k : Nat) : Int := Int.tmod (p k) m * 16777216
end Go.Proofs.Ytnijhjbcjeohhaa.PQ

namespace Go.Proofs.Ytnijhjbcjeohhaa.PQ
open Go.RowKit
set_option linter.unusedVariables false
set_option linter.unusedSimpArgs false
theorem sgB (h l : Int) (s : Bool) : V8 (sg h l s).1 := by
 have h : ∀ (x : Int) (b : Bool), V8 ((cl x, b) : Int × Bool).1 := fun x _ => ⟨qo x, qp x⟩
 unfold sg
 repeat' split
 all_goals exact h _ _
end Go.Proofs.Ytnijhjbcjeohhaa.PQ

