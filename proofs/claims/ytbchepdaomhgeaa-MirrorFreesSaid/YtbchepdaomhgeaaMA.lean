import Derived.Test.YtbchepdaomhgeaaProg
import Derived.Below
import Derived.Deep.Draws
import Derived.Deep.AppendLies
import Derived.Maps.AppendAt
import Derived.OwnWalk
import Derived.ArgAppend
import Derived.Laws.OwnMore
import Derived.Deep.OwnRows
import Derived.Tactics
import Derived.Laws.Slices
import Derived.WalkKit
import Derived.KernelRfl
import Derived.RowKit3
import Derived.Deep.LoopGhost
import Derived.Deep.QuietTactic
import Derived.WideLaws
import Derived.Deep.RegionHeld3
import Derived.Deep.RegionLaw
import Derived.Laws.Rows
import Derived.RowKit
import Derived.LoopTactic
import Derived.Lib.Hide
import Derived.Laws.AppendOwn
import Derived.IntWalk
/- Layer 14: words; the smallest functions. -/
namespace Go.Proofs.Ytbchepdaomhgeaa.MM
open Go.RowKit
set_option linter.unusedVariables false
set_option linter.unusedSimpArgs false

/-- block B is just these cells -/
def Row (w : World) (B : Nat) (t : TypeId) (cs : Array Value) : Prop := w.heap[B]? = some (.cells cs t (0, 0))
section
variable {w w' : World} {B : Nat} {t : TypeId} {cs : Array Value}
theorem Row.cell (h : Row w B t cs) (i : Nat) : w.cell? ⟨B, i, none⟩ = cs[i]? := by unfold Row at h; simp [World.cell?, h]
theorem Row.free (h : Row w B t cs) (i : Nat) : w.frozen? ⟨B, i, none⟩ = false := by unfold Row at h; simp [World.frozen?, h]
theorem Row.lt (h : Row w B t cs) : B < w.heap.size := by
  rcases Nat.lt_or_ge B w.heap.size with hl | hl
  · exact hl
  · unfold Row at h; rw [Array.getElem?_eq_none hl] at h; cases h
theorem Row.new (w : World) (t : TypeId) (cs : Array Value) : Row (w.alloc (.cells cs t)) w.heap.size t cs := heap_alloc_new w _
theorem Row.alloc (h : Row w B t cs) (o : Obj) : Row (w.alloc o) B t cs := (Below.heap_alloc w o B h.lt).trans h
theorem Row.drew (h : Row w B t cs) : Row w.drew B t cs := h
theorem Row.below {n : Nat} (h : Row w B t cs) (hb : Below n w w') (hn : B < n) : Row w' B t cs := (hb.block B hn).trans h
theorem Row.set (h : Row w B t cs) (i : Nat) (u : Value) : Row (w.setCell ⟨B, i, none⟩ u) B t (cs.setIfInBounds i u) := by
  unfold Row at h ⊢
  simp [World.setCell, Array.getElem?_modify, h]
theorem Row.far (h : Row w B t cs) {p : Addr} (hp : B ≠ p.block) (u : Value) : Row (w.setCell p u) B t cs := (Below.heap_setCell w p u B hp).trans h
theorem Row.grown {r : Option Nat} (h : Row w B t cs) (hg : w.grownBy w' r) (hr : some B ≠ r) : Row w' B t cs := (hg.block B h.lt hr).trans h
theorem Row.kept (hb : Below (w.alloc (.cells cs t)).heap.size (w.alloc (.cells cs t)) w') : Row w' w.heap.size t cs := (Row.new w t cs).below hb (Row.new w t cs).lt
end
theorem grown_of_below {w w1 : World} (hb : Below w.heap.size w w1) (r : Option Nat) : w.grownBy w1 r := ⟨hb.os, hb.tape, hb.output, hb.size, fun k hk _ => hb.block k hk⟩
theorem grown_trans {w w1 w2 : World} {r : Option Nat} (h : w.grownBy w1 r) (h' : w1.grownBy w2 r) : w.grownBy w2 r :=
  ⟨h'.os.trans h.os, h'.tape.trans h.tape, h'.output.trans h.output, Nat.le_trans h.size h'.size, fun k hk hr => (h'.block k (Nat.lt_of_lt_of_le hk h.size) hr).trans (h.block k hk hr)⟩

abbrev I (n : Int) : Value := .int .i64 n
/-- a desk's numbers -/
structure Dk where
  gen : Int
  k : Int
  acked : Int
  peer : Int
  stage : Int
  seq : Int
abbrev Dk.row (d : Dk) (s : Value) : Array Value := #[I d.gen, I d.k, I d.acked, I d.peer, I d.stage, I d.seq, s]
abbrev Dk.val (d : Dk) (s : Value) : Value := .agg (d.row s)
/-- an output -/
structure Ot where
  k : Int
  a : Int
  b : Int
  c : Int
  deriving DecidableEq
abbrev Ot.row (o : Ot) : Array Value := #[I o.k, I o.a, I o.b, I o.c]
abbrev Ot.val (o : Ot) : Value := .agg o.row
/-- the slice at A reads as these outputs, below block B -/
def Wts (w : World) (B : Nat) (A : Option Addr) (l : List Ot) : Prop :=
  l ≠ [] → ∃ b off, A = some ⟨b, off, none⟩ ∧ b < B ∧ ∀ (i : Nat) (o : Ot), l[i]? = some o →
    w.cell? ⟨b, off + i * 4, none⟩ = some (I o.k) ∧ w.cell? ⟨b, off + i * 4 + 1, none⟩ = some (I o.a) ∧ w.cell? ⟨b, off + i * 4 + 2, none⟩ = some (I o.b) ∧ w.cell? ⟨b, off + i * 4 + 3, none⟩ = some (I o.c)
section
variable {w w' : World} {B B' : Nat} {A : Option Addr} {l : List Ot}
theorem Wts.nil (w : World) (B : Nat) (A : Option Addr) : Wts w B A [] := fun h => absurd rfl h
theorem Wts.keep (h : Wts w B A l) (hk : ∀ p : Addr, p.block < B → w'.cell? p = w.cell? p) : Wts w' B A l := fun hl => by
  obtain ⟨b, off, e, hb, hc⟩ := h hl
  exact ⟨b, off, e, hb, fun i o ho => by rw [hk _ hb, hk _ hb, hk _ hb, hk _ hb]; exact hc i o ho⟩
theorem Wts.more (h : Wts w B A l) (hB : B ≤ B') : Wts w B' A l := fun hl => by
  obtain ⟨b, off, e, hb, hc⟩ := h hl
  exact ⟨b, off, e, by omega, hc⟩
theorem Wts.below (h : Wts w B A l) (hb : Below B w w') : Wts w' B A l := h.keep fun _ hp => hb.cell hp
theorem Wts.alloc (h : Wts w B A l) (hB : B ≤ w.heap.size) (o : Obj) : Wts (w.alloc o) B A l := h.keep fun p hp => World.cell?_alloc_lt w o p (by omega)
theorem Wts.setCell (h : Wts w B A l) {p : Addr} (hB : B ≤ p.block) (u : Value) : Wts (w.setCell p u) B A l :=
  h.keep fun q hq => World.cell?_setCell_other w p q u (fun e => by subst e; omega)
theorem Wts.drew (h : Wts w B A l) : Wts w.drew B A l := h
end

abbrev fill7 (w : World) (C : Nat) (a b c d e f g : Value) : World :=
  ((((((w.setCell ⟨C, 0, none⟩ a).setCell ⟨C, 1, none⟩ b).setCell ⟨C, 2, none⟩ c).setCell ⟨C, 3, none⟩ d).setCell ⟨C, 4, none⟩ e).setCell ⟨C, 5, none⟩ f).setCell ⟨C, 6, none⟩ g
section
variable {w w0 : World} {B C : Nat} {t : TypeId} {cs : Array Value} {a b c d e f g : Value}
theorem Row.fill7 {a' b' c' d' e' f' g' : Value} (h : Row w B t #[a', b', c', d', e', f', g']) (a b c d e f g : Value) : Row (fill7 w B a b c d e f g) B t #[a, b, c, d, e, f, g] := by
  simpa using ((((((h.set 0 a).set 1 b).set 2 c).set 3 d).set 4 e).set 5 f).set 6 g
theorem Row.far7 (h : Row w B t cs) (hne : B ≠ C) : Row (MM.fill7 w C a b c d e f g) B t cs :=
  ((((((h.far (p := ⟨C, 0, none⟩) hne a).far (p := ⟨C, 1, none⟩) hne b).far (p := ⟨C, 2, none⟩) hne c).far (p := ⟨C, 3, none⟩) hne d).far (p := ⟨C, 4, none⟩) hne e).far (p := ⟨C, 5, none⟩) hne f).far (p := ⟨C, 6, none⟩) hne g
theorem Below.fill7 {B : Nat} (h : Below B w0 w) (hC : B ≤ C) (a b c d e f g : Value) : Below B w0 (MM.fill7 w C a b c d e f g) :=
  ((((((h.setCell (p := ⟨C, 0, none⟩) hC a).setCell (p := ⟨C, 1, none⟩) hC b).setCell (p := ⟨C, 2, none⟩) hC c).setCell (p := ⟨C, 3, none⟩) hC d).setCell (p := ⟨C, 4, none⟩) hC e).setCell (p := ⟨C, 5, none⟩) hC f).setCell (p := ⟨C, 6, none⟩) hC g
theorem Wts.fill7 {A : Option Addr} {l : List Ot} (h : Wts w B A l) (hC : B ≤ C) : Wts (MM.fill7 w C a b c d e f g) B A l :=
  ((((((h.setCell (p := ⟨C, 0, none⟩) hC a).setCell (p := ⟨C, 1, none⟩) hC b).setCell (p := ⟨C, 2, none⟩) hC c).setCell (p := ⟨C, 3, none⟩) hC d).setCell (p := ⟨C, 4, none⟩) hC e).setCell (p := ⟨C, 5, none⟩) hC f).setCell (p := ⟨C, 6, none⟩) hC g
end
section
variable {w : World} {B : Nat} {a b c d e f g : Value} {fn : Func} {k j : Nat} {tmps : Array Value}
theorem results_cell (h : fn.results = #[.cell k 26]) (hk : tmps.getD k undef = .pointer (some ⟨B, 0, none⟩)) (R : Row w B 26 #[a, b, c, d, e, f, g]) :
    (results fn tmps).run Try.prog w = .ok (.agg #[a, b, c, d, e, f, g]) w := by
  have c := R.cell
  have hk' : tmps[k]?.getD undef = .pointer (some ⟨B, 0, none⟩) := by simpa using hk
  simp only [results, h]
  simp [go_sem, hk', c]
theorem results_cell_tmp (h : fn.results = #[.cell k 26, .tmp j]) (hk : tmps.getD k undef = .pointer (some ⟨B, 0, none⟩)) (R : Row w B 26 #[a, b, c, d, e, f, g]) :
    (results fn tmps).run Try.prog w = .ok (.tuple #[.agg #[a, b, c, d, e, f, g], tmps.getD j undef]) w := by
  have c := R.cell
  have hk' : tmps[k]?.getD undef = .pointer (some ⟨B, 0, none⟩) := by simpa using hk
  simp only [results, h]
  simp [go_sem, hk', c]
end
def inB (n : Int) : Bool := decide (0 ≤ n) && decide (n ≤ 4611686018427387904)
def known (n : Int) : Int := if inB n = true then n else 0
theorem in_calls (n : Int) (w : World) : Calls Try.prog 42 #[I n] w fun e w' => e = .returned (.bool (inB n)) ∧ Below w.heap.size w w' := by
  by_cases h : 0 ≤ n
  · have h0 : decide (0 ≤ n) = true := decide_eq_true h
    go_enter Try.func42, Try.ntmps42
    go_wp2
    go_ret
    exact ⟨by simp [inB, h], Below.refl _ _⟩
  · have h0 : decide (0 ≤ n) = false := decide_eq_false h
    go_enter Try.func42, Try.ntmps42
    go_wp2
    go_ret
    exact ⟨by simp [inB, h0], Below.refl _ _⟩
theorem refIn_calls (n : Int) (w : World) : Calls Try.prog 38 #[I n] w fun e w' => e = .returned (.bool (inB n)) ∧ Below w.heap.size w w' := by
  by_cases h : 0 ≤ n
  · have h0 : decide (0 ≤ n) = true := decide_eq_true h
    go_enter Try.func38, Try.ntmps38
    go_wp2
    go_ret
    exact ⟨by simp [inB, h], Below.refl _ _⟩
  · have h0 : decide (0 ≤ n) = false := decide_eq_false h
    go_enter Try.func38, Try.ntmps38
    go_wp2
    go_ret
    exact ⟨by simp [inB, h0], Below.refl _ _⟩
theorem known_calls (n : Int) (w : World) : Calls Try.prog 34 #[I n] w fun e w' => e = .returned (I (known n)) ∧ Below w.heap.size w w' := by
  go_enter Try.func34, Try.ntmps34
  go_wp2_with fail
  refine (in_calls _ _).mono ?_
  rintro e w1 ⟨rfl, hb⟩
  cases h : inB n
  · go_wp2
    go_ret
    exact ⟨by simp [known, h], hb⟩
  · go_wp2
    go_ret
    exact ⟨by simp [known, h], hb⟩
theorem new_calls (g k : Int) (w : World) : Calls Try.prog 11 #[I g, I k] w fun e w' => e = .returned (Dk.val ⟨known g, known k, known k, -1, 0, 0⟩ (.slice none 0 0)) ∧ Below w.heap.size w w' := by
  go_enter Try.func11, Try.ntmps11
  go_wp2_with fail
  refine (known_calls _ _).mono ?_
  rintro e w1 ⟨rfl, hb⟩
  have M := Lib.hid (Row.kept hb)
  have N := Lib.hid (((Below.refl w.heap.size w).alloc (Nat.le_refl _) (.cells #[I 0, I 0, I 0, I 0, I 0, I 0, .slice none 0 0] 26)).trans (hb.mono (by simp)))
  clear hb
  go_wp2_with fail
  refine (known_calls _ _).mono ?_
  rintro e w2 ⟨rfl, hb⟩
  have M2 := Lib.hid (M.out.below hb M.out.lt)
  have N2 := Lib.hid (N.out.trans (hb.mono N.out.size))
  clear hb M N
  go_wp2_with fail
  refine (known_calls _ _).mono ?_
  rintro e w3 ⟨rfl, hb⟩
  have M := Lib.hid (M2.out.below hb M2.out.lt)
  have N := Lib.hid (N2.out.trans (hb.mono N2.out.size))
  clear hb M2 N2
  have c := M.out.cell
  have f := M.out.free
  go_wp2
  have R := M.out.fill7 (I (known g)) (I (known k)) (I (known k)) (I (-1)) (I 0) (I 0) (.slice none 0 0)
  have HB := Below.fill7 N.out (Nat.le_refl _) (I (known g)) (I (known k)) (I (known k)) (I (-1)) (I 0) (I 0) (.slice none 0 0)
  clear c f M N
  exact bodyPost_ret (results_cell rfl rfl R) rfl ⟨rfl, HB⟩
end Go.Proofs.Ytbchepdaomhgeaa.MM
