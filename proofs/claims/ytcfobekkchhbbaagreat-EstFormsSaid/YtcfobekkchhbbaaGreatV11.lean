import Derived.Test.YtcfobekkchhbbaaGreatV6
import Derived.LoopTactic
import Derived.Lib.Hide
import Derived.Deep.RegionHeld3
import Derived.Laws.AppendOwn
import Derived.Deep.WholeRow
import Derived.ChangeKeysEq
/- Joined and thinned by a program of this session's own (wip/pack2.py) out of its texts (wip/ of its repo); parts were laid by its own program (wip/print-patch.py over the kit's print) out of the translation; Lean checks all. -/
set_option maxRecDepth 100000
set_option maxHeartbeats 2000000
namespace Go.Proofs.YtcfobekkchhbbaaGreat.PQ
open Go.RowKit Go.Proofs.af.aU Go.Proofs.af.a_ Go.Proofs.af.bf
set_option linter.unusedVariables false
set_option linter.unusedSimpArgs false
def Row (w : World) (B : Nat) (t : TypeId) (cs : Array Value) : Prop := w.heap[B]? = some (.cells cs t (0, 0))
section
variable {w w' : World} {B : Nat} {t : TypeId} {cs : Array Value}
theorem Row.cell (h : Row w B t cs) (i : Nat) : w.cell? ⟨B, i, none⟩ = cs[i]? := by unfold Row at h; simp [World.cell?, h]
theorem Row.lt (h : Row w B t cs) : B < w.heap.size := by
 rcases Nat.lt_or_ge B w.heap.size with hl | hl
 · exact hl
 · unfold Row at h; rw [Array.getElem?_eq_none hl] at h; cases h
theorem Row.new (w : World) (t : TypeId) (cs : Array Value) : Row (w.alloc (.cells cs t)) w.heap.size t cs := heap_alloc_new w _
theorem Row.alloc (h : Row w B t cs) (o : Obj) : Row (w.alloc o) B t cs := (Below.heap_alloc w o B h.lt).trans h
theorem Row.below {n : Nat} (h : Row w B t cs) (hb : Below n w w') (hn : B < n) : Row w' B t cs := (hb.block B hn).trans h
end
end Go.Proofs.YtcfobekkchhbbaaGreat.PQ

namespace Go.Proofs.YtcfobekkchhbbaaGreat.PQ
open Go.RowKit
def LM : Array Value := #[.int .i64 0, .int .i64 0, .int .i64 1, .int .i64 1, .int .i64 1, .int .i64 (-1), .int .i64 2, .int .i64 2, .int .i64 (-1), .int .i64 3, .int .i64 3, .int .i64 (-1),
 .int .i64 0, .int .i64 1, .int .i64 1, .int .i64 1, .int .i64 0, .int .i64 1, .int .i64 2, .int .i64 3, .int .i64 1, .int .i64 3, .int .i64 2, .int .i64 (-1),
 .int .i64 0, .int .i64 2, .int .i64 1, .int .i64 1, .int .i64 3, .int .i64 (-1), .int .i64 2, .int .i64 0, .int .i64 1, .int .i64 3, .int .i64 1, .int .i64 1,
 .int .i64 0, .int .i64 3, .int .i64 1, .int .i64 1, .int .i64 2, .int .i64 1, .int .i64 2, .int .i64 1, .int .i64 (-1), .int .i64 3, .int .i64 0, .int .i64 1]
end Go.Proofs.YtcfobekkchhbbaaGreat.PQ

namespace Go.Proofs.YtcfobekkchhbbaaGreat.PQ
open Go.RowKit Go.Proofs.af.aU Go.Proofs.af.a_ Go.Proofs.af.bf
set_option linter.unusedVariables false
set_option linter.unusedSimpArgs false
theorem ix0 (w : World) : (Instr.index 198 (.agg LM) (.int .i64 0)).run Tryz.prog w = .ok (.agg #[.int .i64 0, .int .i64 0, .int .i64 1, .int .i64 1, .int .i64 1, .int .i64 (-1), .int .i64 2, .int .i64 2, .int .i64 (-1), .int .i64 3, .int .i64 3, .int .i64 (-1)]) w := by kernel_rfl
theorem ix1 (w : World) : (Instr.index 198 (.agg LM) (.int .i64 1)).run Tryz.prog w = .ok (.agg #[.int .i64 0, .int .i64 1, .int .i64 1, .int .i64 1, .int .i64 0, .int .i64 1, .int .i64 2, .int .i64 3, .int .i64 1, .int .i64 3, .int .i64 2, .int .i64 (-1)]) w := by kernel_rfl
theorem ix2 (w : World) : (Instr.index 198 (.agg LM) (.int .i64 2)).run Tryz.prog w = .ok (.agg #[.int .i64 0, .int .i64 2, .int .i64 1, .int .i64 1, .int .i64 3, .int .i64 (-1), .int .i64 2, .int .i64 0, .int .i64 1, .int .i64 3, .int .i64 1, .int .i64 1]) w := by kernel_rfl
end Go.Proofs.YtcfobekkchhbbaaGreat.PQ

namespace Go.Proofs.YtcfobekkchhbbaaGreat.PQ
open Go.RowKit Go.Proofs.af.aU Go.Proofs.af.a_ Go.Proofs.af.bf
set_option linter.unusedVariables false
set_option linter.unusedSimpArgs false
def Rows (w : World) : Nat → List (TypeId × Array Value) → Prop
 | _, [] => True
 | b, x :: l => Row w b x.1 x.2 ∧ Rows w (b + 1) l
section
variable {w w' w0 : World} {b : Nat} {L : List (TypeId × Array Value)}
theorem Rows.imp (h : ∀ k t cs, b ≤ k → k < b + L.length → Row w k t cs → Row w' k t cs) (H : Rows w b L) : Rows w' b L := by
 induction L generalizing b with
 | nil => trivial
 | cons x l ih =>
   refine ⟨h b _ _ (Nat.le_refl _) (by simp) H.1, ih (fun k t cs h1 h2 => h k t cs (by omega) (by simp; omega)) H.2⟩
theorem Rows.alloc (h : Rows w b L) (o : Obj) : Rows (w.alloc o) b L := h.imp fun _ _ _ _ _ r => r.alloc o
theorem Rows.below (h : Rows w b L) (hb : Below w.heap.size w w') : Rows w' b L := h.imp fun _ _ _ _ _ r => r.below hb r.lt
theorem Rows.push (H : Rows w b L) (h : w.heap.size = b + L.length) (t : TypeId) (cs : Array Value) : Rows (w.alloc (.cells cs t)) b (L ++ [(t, cs)]) := by
 have := (H.alloc (.cells cs t))
 have e := Row.new w t cs; rw [h] at e; clear H h
 induction L generalizing b with
 | nil => exact ⟨e, trivial⟩
 | cons x l ih => exact ⟨this.1, ih this.2 (by simp only [List.length_cons] at e; rwa [Nat.add_assoc, Nat.add_comm 1])⟩
end
structure bD (w0 : World) (L : List (TypeId × Array Value)) (w : World) : Prop where
 rows : Rows w w0.heap.size L
 be : Below w0.heap.size w0 w
section
variable {w w' w0 : World} {L : List (TypeId × Array Value)}
theorem bD.none (w : World) : bD w [] w := ⟨trivial, Below.refl _ w⟩
theorem bD.push (h : bD w0 L w) (e : w.heap.size = w0.heap.size + L.length) (t : TypeId) (cs : Array Value) : bD w0 (L ++ [(t, cs)]) (w.alloc (.cells cs t)) :=
 ⟨h.rows.push e t cs, h.be.alloc h.be.size _⟩
theorem bD.below (h : bD w0 L w) (hb : Below w.heap.size w w') : bD w0 L w' := ⟨h.rows.below hb, h.be.trans (hb.mono h.be.size)⟩
variable {x0 x1 x2 x3 x4 x5 : TypeId × Array Value}
theorem bD.r0 (h : bD w0 (x0 :: L) w) : Row w w0.heap.size x0.1 x0.2 := h.rows.1
theorem bD.r5 (h : bD w0 (x0 :: x1 :: x2 :: x3 :: x4 :: x5 :: L) w) : Row w (w0.heap.size + 1 + 1 + 1 + 1 + 1) x5.1 x5.2 := h.rows.2.2.2.2.2.1
end
abbrev q4 (a b c d : Int) : Array Value := #[.int .i64 a, .int .i64 b, .int .i64 c, .int .i64 d]
end Go.Proofs.YtcfobekkchhbbaaGreat.PQ

namespace Go.Proofs.YtcfobekkchhbbaaGreat.PQ
open Go.RowKit Go.Proofs.af.aU Go.Proofs.af.a_ Go.Proofs.af.bf
set_option linter.unusedVariables false
set_option linter.unusedSimpArgs false
def at4 (a b c d : Int) : Nat → Int
 | 0 => a
 | 1 => b
 | 2 => c
 | _ => d
end Go.Proofs.YtcfobekkchhbbaaGreat.PQ

namespace Go.Proofs.YtcfobekkchhbbaaGreat.PQ
open Go.RowKit Go.Proofs.af.aU Go.Proofs.af.a_ Go.Proofs.af.bf
set_option linter.unusedVariables false
set_option linter.unusedSimpArgs false
def inB (a : Int) : Bool := !(decide (a < -70368744177664)) && !(decide (70368744177663 < a))
def jd (p : Nat → Int) : Nat → Bool
 | 0 => true
 | k + 1 => jd p k && inB (p k)
theorem uu {p : Nat → Int} {k n : Nat} (h : inB (p k) = false) (hk : k < n) : jd p n = false := by
 induction n with
 | zero => omega
 | succ n ih =>
   rcases Nat.lt_or_ge k n with hl | hl
   · simp [jd, ih hl]
   · obtain rfl : k = n := by omega
     simp [jd, h]
theorem kG (a b c d : Int) (w : World) :
 Calls Tryz.prog 41 #[.agg #[.int .i64 a, .int .i64 b, .int .i64 c, .int .i64 d]] w fun e w' =>
  e = .returned (.bool (jd (at4 a b c d) 4)) ∧ Below w.heap.size w w' := by
 go_enter Tryz.func41, Tryz.ntmps41
 go_wp2
 go_loopw [6] (fun i wr => ∃ k : Nat, k ≤ 4 ∧ i = .int .i64 k ∧ jd (at4 a b c d) k = true ∧ Hid (Below w.heap.size w wr)) (fun i _ => 4 - (intOf i).toNat)
 case atStart => exact ⟨0, by omega, rfl, rfl, Lib.hid ((Below.refl _ w).alloc (by simp) _)⟩
 case round =>
  obtain ⟨k, hk, rfl, hr, M⟩ := hrel
  have key : ∀ n x, n < 4 → at4 a b c d n = x → k = n → x < -70368744177664 → jd (at4 a b c d) 4 = false := fun n x hn hx hk' hlt => uu (k := n) (by simp [inB, hx, hlt]) hn
  have aaT : ∀ n x, n < 4 → at4 a b c d n = x → k = n → 70368744177663 < x → jd (at4 a b c d) 4 = false := fun n x hn hx hk' hlt => uu (k := n) (by simp [inB, hx, hlt]) hn
  have TI : ∀ n x, n < 4 → at4 a b c d n = x → k = n → ¬ x < -70368744177664 → ¬ 70368744177663 < x → jd (at4 a b c d) (n + 1) = true := fun n x hn hx hk' h1 h2 => by
   subst hk'; have e : jd (at4 a b c d) (k + 1) = (jd (at4 a b c d) k && inB (at4 a b c d k)) := rfl; rw [e, hr, hx]; simp [inB, h1, h2]
  have K1 := Lib.hid key; have K2 := Lib.hid aaT; have K3 := Lib.hid TI; have R := Lib.hid hr; clear key aaT TI hr
  obtain rfl | rfl | rfl | rfl | rfl : k = 0 ∨ k = 1 ∨ k = 2 ∨ k = 3 ∨ k = 4 := by omega
  · have ix : (Instr.index 26 (.agg #[.int .i64 a, .int .i64 b, .int .i64 c, .int .i64 d]) (.int .i64 0)).run Tryz.prog wr = .ok (.int .i64 a) wr := by kernel_rfl
    by_cases h1 : a < -70368744177664
    · have rf := K1.out 0 a (by omega) rfl rfl h1
      have d1 : decide (a < -70368744177664) = true := decide_eq_true h1; go_wp2
      go_ret
      exact ⟨rfl, M.out⟩
    · have d1 : decide (a < -70368744177664) = false := decide_eq_false h1
      by_cases h2 : 70368744177663 < a
      · have rf := K2.out 0 a (by omega) rfl rfl h2
        have d2 : decide (70368744177663 < a) = true := decide_eq_true h2; go_wp2
        go_ret
        exact ⟨rfl, M.out⟩
      · have rt := Lib.hid (K3.out 0 a (by omega) rfl rfl h1 h2)
        have d2 : decide (70368744177663 < a) = false := decide_eq_false h2; go_wp2
        go_roundw
        case rel => exact ⟨0 + 1, by omega, by go_num, rt.out, M⟩
        case measure => simp [intOf]
  · have ix : (Instr.index 26 (.agg #[.int .i64 a, .int .i64 b, .int .i64 c, .int .i64 d]) (.int .i64 1)).run Tryz.prog wr = .ok (.int .i64 b) wr := by kernel_rfl
    by_cases h1 : b < -70368744177664
    · have rf := K1.out 1 b (by omega) rfl rfl h1
      have d1 : decide (b < -70368744177664) = true := decide_eq_true h1; go_wp2
      go_ret
      exact ⟨rfl, M.out⟩
    · have d1 : decide (b < -70368744177664) = false := decide_eq_false h1
      by_cases h2 : 70368744177663 < b
      · have rf := K2.out 1 b (by omega) rfl rfl h2
        have d2 : decide (70368744177663 < b) = true := decide_eq_true h2; go_wp2
        go_ret
        exact ⟨rfl, M.out⟩
      · have rt := Lib.hid (K3.out 1 b (by omega) rfl rfl h1 h2)
        have d2 : decide (70368744177663 < b) = false := decide_eq_false h2; go_wp2
        go_roundw
        case rel => exact ⟨1 + 1, by omega, by go_num, rt.out, M⟩
        case measure => simp [intOf]
  · have ix : (Instr.index 26 (.agg #[.int .i64 a, .int .i64 b, .int .i64 c, .int .i64 d]) (.int .i64 2)).run Tryz.prog wr = .ok (.int .i64 c) wr := by kernel_rfl
    by_cases h1 : c < -70368744177664
    · have rf := K1.out 2 c (by omega) rfl rfl h1
      have d1 : decide (c < -70368744177664) = true := decide_eq_true h1; go_wp2
      go_ret
      exact ⟨rfl, M.out⟩
    · have d1 : decide (c < -70368744177664) = false := decide_eq_false h1
      by_cases h2 : 70368744177663 < c
      · have rf := K2.out 2 c (by omega) rfl rfl h2
        have d2 : decide (70368744177663 < c) = true := decide_eq_true h2; go_wp2
        go_ret
        exact ⟨rfl, M.out⟩
      · have rt := Lib.hid (K3.out 2 c (by omega) rfl rfl h1 h2)
        have d2 : decide (70368744177663 < c) = false := decide_eq_false h2; go_wp2
        go_roundw
        case rel => exact ⟨2 + 1, by omega, by go_num, rt.out, M⟩
        case measure => simp [intOf]
  · have ix : (Instr.index 26 (.agg #[.int .i64 a, .int .i64 b, .int .i64 c, .int .i64 d]) (.int .i64 3)).run Tryz.prog wr = .ok (.int .i64 d) wr := by kernel_rfl
    by_cases h1 : d < -70368744177664
    · have rf := K1.out 3 d (by omega) rfl rfl h1
      have d1 : decide (d < -70368744177664) = true := decide_eq_true h1; go_wp2
      go_ret
      exact ⟨rfl, M.out⟩
    · have d1 : decide (d < -70368744177664) = false := decide_eq_false h1
      by_cases h2 : 70368744177663 < d
      · have rf := K2.out 3 d (by omega) rfl rfl h2
        have d2 : decide (70368744177663 < d) = true := decide_eq_true h2; go_wp2
        go_ret
        exact ⟨rfl, M.out⟩
      · have rt := Lib.hid (K3.out 3 d (by omega) rfl rfl h1 h2)
        have d2 : decide (70368744177663 < d) = false := decide_eq_false h2; go_wp2
        go_roundw
        case rel => exact ⟨3 + 1, by omega, by go_num, rt.out, M⟩
        case measure => simp [intOf]
  · go_wp2
    go_ret
    exact ⟨by rw [R.out]; rfl, M.out⟩
theorem y5 (a : Int) (w : World) : Calls Tryz.prog 51 #[.int .i64 a] w fun e w' => e = .returned (.bool (inB a)) ∧ Below w.heap.size w w' := by
 have h := dQ.calls a (inB a) w (by rw [aaU]; congr 1; unfold inB; rw [Bool.eq_iff_iff]; simp); exact h.mono fun e w' hx => ⟨hx.1, hx.2.below⟩
theorem Dx (a b c d : Int) (w : World) :
 Calls Tryz.prog 23 #[.agg #[.int .i64 a, .int .i64 b, .int .i64 c, .int .i64 d]] w fun e w' =>
  e = .returned (.bool (jd (at4 a b c d) 4)) ∧ Below w.heap.size w w' := by
 go_enter Tryz.func23, Tryz.ntmps23
 go_wp2
 go_loopw [3] (fun i wr => ∃ k : Nat, k ≤ 4 ∧ i = .int .i64 k ∧ jd (at4 a b c d) k = true ∧ Hid (bD w [(26, q4 a b c d)] wr)) (fun i _ => 4 - (intOf i).toNat)
 case atStart => exact ⟨0, by omega, rfl, rfl, Lib.hid ((bD.none w).push (by simp) _ _)⟩
 case round =>
  obtain ⟨k, hk, rfl, hr, M⟩ := hrel
  have key : ∀ n x, n < 4 → at4 a b c d n = x → k = n → inB x = false → jd (at4 a b c d) 4 = false := fun n x hn hx hk' hlt => uu (k := n) (by rw [hx, hlt]) hn
  have TI : ∀ n x, n < 4 → at4 a b c d n = x → k = n → inB x = true → jd (at4 a b c d) (n + 1) = true := fun n x hn hx hk' h1 => by
   subst hk'; have e : jd (at4 a b c d) (k + 1) = (jd (at4 a b c d) k && inB (at4 a b c d k)) := rfl; rw [e, hr, hx, h1]; rfl
  have K1 := Lib.hid key; have K3 := Lib.hid TI; have R := Lib.hid hr; clear key TI hr
  obtain rfl | rfl | rfl | rfl | rfl : k = 0 ∨ k = 1 ∨ k = 2 ∨ k = 3 ∨ k = 4 := by omega
  · have cx := M.out.r0.cell 0
    go_wp2_with fail
    refine (y5 a _).mono ?_
    rintro e w1 ⟨rfl, hb⟩; have M1 := Lib.hid (M.out.below hb); clear hb M cx
    cases hi : inB a
    · have rf := K1.out 0 a (by omega) rfl rfl hi
      go_wp2
      go_ret
      exact ⟨by first | rfl | (rw [rf]; rfl), M1.out.be⟩
    · have rt := Lib.hid (K3.out 0 a (by omega) rfl rfl hi)
      go_wp2
      go_roundw
      case rel => exact ⟨0 + 1, by omega, by go_num, rt.out, M1⟩
      case measure => simp [intOf]
  · have cx := M.out.r0.cell 1
    go_wp2_with fail
    refine (y5 b _).mono ?_
    rintro e w1 ⟨rfl, hb⟩; have M1 := Lib.hid (M.out.below hb); clear hb M cx
    cases hi : inB b
    · have rf := K1.out 1 b (by omega) rfl rfl hi
      go_wp2
      go_ret
      exact ⟨by first | rfl | (rw [rf]; rfl), M1.out.be⟩
    · have rt := Lib.hid (K3.out 1 b (by omega) rfl rfl hi)
      go_wp2
      go_roundw
      case rel => exact ⟨1 + 1, by omega, by go_num, rt.out, M1⟩
      case measure => simp [intOf]
  · have cx := M.out.r0.cell 2
    go_wp2_with fail
    refine (y5 c _).mono ?_
    rintro e w1 ⟨rfl, hb⟩; have M1 := Lib.hid (M.out.below hb); clear hb M cx
    cases hi : inB c
    · have rf := K1.out 2 c (by omega) rfl rfl hi
      go_wp2
      go_ret
      exact ⟨by first | rfl | (rw [rf]; rfl), M1.out.be⟩
    · have rt := Lib.hid (K3.out 2 c (by omega) rfl rfl hi)
      go_wp2
      go_roundw
      case rel => exact ⟨2 + 1, by omega, by go_num, rt.out, M1⟩
      case measure => simp [intOf]
  · have cx := M.out.r0.cell 3
    go_wp2_with fail
    refine (y5 d _).mono ?_
    rintro e w1 ⟨rfl, hb⟩; have M1 := Lib.hid (M.out.below hb); clear hb M cx
    cases hi : inB d
    · have rf := K1.out 3 d (by omega) rfl rfl hi
      go_wp2
      go_ret
      exact ⟨by first | rfl | (rw [rf]; rfl), M1.out.be⟩
    · have rt := Lib.hid (K3.out 3 d (by omega) rfl rfl hi)
      go_wp2
      go_roundw
      case rel => exact ⟨3 + 1, by omega, by go_num, rt.out, M1⟩
      case measure => simp [intOf]
  · go_wp2
    go_ret
    exact ⟨by rw [R.out]; rfl, M.out.be⟩
end Go.Proofs.YtcfobekkchhbbaaGreat.PQ

namespace Go.Proofs.YtcfobekkchhbbaaGreat.PQ
open Go.RowKit Go.Proofs.af.aU Go.Proofs.af.a_ Go.Proofs.af.bf
set_option linter.unusedVariables false
set_option linter.unusedSimpArgs false
theorem Td (xs : Array Value) (k : Nat) (x : Int) (h : xs[k]? = some (.int .i64 x)) (w : World) : (part 22 xs k).run Tryz.prog w = .ok (.int .i64 x) w := by
 simp [part, go_sem, h]
theorem nD (a e : Int) (xs ys : Array Value) (k : Nat) (hx : xs[k]? = some (.int .i64 a)) (hy : ys[k]? = some (.int .i64 e)) (ks : List Nat) (r : Bool) (w : World)
 (h : (Op.eqItems 9999 22 1 xs ys ks).run Tryz.prog w = .ok r w) : (Op.eqItems 9999 22 1 xs ys (k :: ks)).run Tryz.prog w = .ok ((a == e) && r) w := by
 have p1 := Td xs (k * 1) a (by simpa using hx) w; have p2 := Td ys (k * 1) e (by simpa using hy) w; have p3 := run_equalIn_int w (P := Tryz.prog) 9998 22 .i64 .i64 a e rfl; simp only [Op.eqItems, Sem.run_bind, p1, p2, p3, Result.andThen_ok]
 cases hr : (a == e)
 · simp
 · simpa using h
theorem abe (a b c d e f g h : Int) (w : World) :
 (Op.equalIn 10000 26 (.agg #[.int .i64 a, .int .i64 b, .int .i64 c, .int .i64 d]) (.agg #[.int .i64 e, .int .i64 f, .int .i64 g, .int .i64 h])).run Tryz.prog w = .ok ((a == e) && ((b == f) && ((c == g) && ((d == h) && true)))) w := by
 rw [run_equalIn_array (P := Tryz.prog) (w := w) 9999 (e := 22) (n := 4) (i := _) _ _ rfl rfl]; exact nD _ _ _ _ 0 rfl rfl _ _ w (nD _ _ _ _ 1 rfl rfl _ _ w (nD _ _ _ _ 2 rfl rfl _ _ w (nD _ _ _ _ 3 rfl rfl _ _ w (by simp [Op.eqItems]))))
theorem ahn (a b c e f g : Int) (w : World) :
 (Op.equalIn 10000 53 (.agg #[.int .i64 a, .int .i64 b, .int .i64 c]) (.agg #[.int .i64 e, .int .i64 f, .int .i64 g])).run Tryz.prog w = .ok ((a == e) && ((b == f) && ((c == g) && true))) w := by
 rw [run_equalIn_array (P := Tryz.prog) (w := w) 9999 (e := 22) (n := 3) (i := _) _ _ rfl rfl]; exact nD _ _ _ _ 0 rfl rfl _ _ w (nD _ _ _ _ 1 rfl rfl _ _ w (nD _ _ _ _ 2 rfl rfl _ _ w (by simp [Op.eqItems])))
end Go.Proofs.YtcfobekkchhbbaaGreat.PQ

namespace Go.Proofs.YtcfobekkchhbbaaGreat.PQ
set_option linter.unusedVariables false
set_option linter.unusedSimpArgs false
abbrev InR (z : Int) : Prop := -70368744177664 ≤ z ∧ z ≤ 70368744177663
end Go.Proofs.YtcfobekkchhbbaaGreat.PQ

namespace Go.Proofs.YtcfobekkchhbbaaGreat.PQ
set_option linter.unusedVariables false
set_option linter.unusedSimpArgs false
def hm1 (a b c d e f g h : Int) : Int := a * f + b * e + c * h + -(d * g)
def hm2 (a b c d e f g h : Int) : Int := a * g + -(b * h) + c * e + d * f
def hm3 (a b c d e f g h : Int) : Int := a * h + b * g + -(c * f) + d * e
end Go.Proofs.YtcfobekkchhbbaaGreat.PQ

namespace Go.Proofs.YtcfobekkchhbbaaGreat.PQ
open Go.RowKit Go.Proofs.af.aU Go.Proofs.af.a_ Go.Proofs.af.bf
set_option linter.unusedVariables false
set_option linter.unusedSimpArgs false
abbrev b4 (a b c d : Int) : Array Value := #[.int .i8 a, .int .i8 b, .int .i8 c, .int .i8 d]
def w8 (m : Int) (p : Nat → Int) (k : Nat) : Int := Int.tmod (p k) m * 16777216
end Go.Proofs.YtcfobekkchhbbaaGreat.PQ

namespace Go.Proofs.YtcfobekkchhbbaaGreat.PQ
open Go.RowKit
set_option linter.unusedVariables false
set_option linter.unusedSimpArgs false
theorem sgB (h l : Int) (s : Bool) : InR (sg h l s).1 := by
 have h : ∀ (x : Int) (b : Bool), InR ((cl x, b) : Int × Bool).1 := fun x _ => ⟨yu x, yw x⟩
 unfold sg
 repeat' split
 all_goals exact h _ _
end Go.Proofs.YtcfobekkchhbbaaGreat.PQ

