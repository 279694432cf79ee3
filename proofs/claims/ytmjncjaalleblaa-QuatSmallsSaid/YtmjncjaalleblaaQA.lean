import Derived.Test.YtmjncjaalleblaaMathD
import Derived.LoopTactic
import Derived.Lib.Hide
import Derived.Deep.RegionHeld3
import Derived.Laws.AppendOwn
/- Layer 4: contracts of the flag's methods and the quaternions' functions. -/
namespace Go.Proofs.Ytmjncjaalleblaa.PQ
open Go.RowKit Go.Proofs.YtmjncjaalleblaaW.PrintWords Go.Proofs.YtmjncjaalleblaaW.PrintLast Go.Proofs.YtmjncjaalleblaaW.PrintMore
set_option linter.unusedVariables false
set_option linter.unusedSimpArgs false

/-- block B is just these cells -/
def Row (w : World) (B : Nat) (t : TypeId) (cs : Array Value) : Prop := w.heap[B]? = some (.cells cs t (0, 0))
section
variable {w w' : World} {B : Nat} {t : TypeId} {cs : Array Value}
theorem Row.cell (h : Row w B t cs) (i : Nat) : w.cell? ⟨B, i, none⟩ = cs[i]? := by unfold Row at h; simp [World.cell?, h]
theorem Row.free (h : Row w B t cs) (i : Nat) : w.frozen? ⟨B, i, none⟩ = false := by unfold Row at h; simp [World.frozen?, h]
theorem Row.lt (h : Row w B t cs) : B < w.heap.size := by
  rcases Nat.lt_or_ge B w.heap.size with hl | hl
  · exact hl
  · unfold Row at h; rw [Array.getElem?_eq_none hl] at h; cases h
theorem Row.new (w : World) (t : TypeId) (cs : Array Value) : Row (w.alloc (.cells cs t)) w.heap.size t cs := heap_alloc_new w _
theorem Row.alloc (h : Row w B t cs) (o : Obj) : Row (w.alloc o) B t cs := (Below.heap_alloc w o B h.lt).trans h
theorem Row.drew (h : Row w B t cs) : Row w.drew B t cs := h
theorem Row.below {n : Nat} (h : Row w B t cs) (hb : Below n w w') (hn : B < n) : Row w' B t cs := (hb.block B hn).trans h
theorem Row.set (h : Row w B t cs) (i : Nat) (u : Value) : Row (w.setCell ⟨B, i, none⟩ u) B t (cs.setIfInBounds i u) := by
  unfold Row at h ⊢
  simp [World.setCell, Array.getElem?_modify, h]
theorem Row.far (h : Row w B t cs) {p : Addr} (hp : B ≠ p.block) (u : Value) : Row (w.setCell p u) B t cs := (Below.heap_setCell w p u B hp).trans h
theorem Row.grown {r : Option Nat} (h : Row w B t cs) (hg : w.grownBy w' r) (hr : some B ≠ r) : Row w' B t cs := (hg.block B h.lt hr).trans h
end
theorem grown_of_below {w w1 : World} (hb : Below w.heap.size w w1) (r : Option Nat) : w.grownBy w1 r := ⟨hb.os, hb.tape, hb.output, hb.size, fun k hk _ => hb.block k hk⟩
theorem grown_set {w w1 : World} {B : Nat} (h : w.grownBy w1 (some B)) (i : Nat) (u : Value) : w.grownBy (w1.setCell ⟨B, i, none⟩ u) (some B) :=
  ⟨h.os, h.tape, h.output, by simpa using h.size, fun k hk hr => (Below.heap_setCell w1 ⟨B, i, none⟩ u k (fun e => hr (by rw [e]))).trans (h.block k hk hr)⟩
theorem grown_trans {w w1 w2 : World} {r : Option Nat} (h : w.grownBy w1 r) (h' : w1.grownBy w2 r) : w.grownBy w2 r :=
  ⟨h'.os.trans h.os, h'.tape.trans h.tape, h'.output.trans h.output, Nat.le_trans h.size h'.size, fun k hk hr => (h'.block k (Nat.lt_of_lt_of_le hk h.size) hr).trans (h.block k hk hr)⟩

/-- a flag in a block of its own -/
abbrev Flag (w : World) (F : Nat) (b : Bool) : Prop := Row w F 46 #[.bool b]
/-- what a method of the flag leaves -/
def Flagged (w : World) (F : Nat) (v : Value) (b : Bool) (e : Ending) (w' : World) : Prop := e = .returned v ∧ w.grownBy w' (some F) ∧ Flag w' F b

theorem one_calls (F : Nat) (f b : Bool) (a : Int) (w : World) (hf : Flag w F f) : Calls Try.prog 24 #[.pointer (some ⟨F, 0, none⟩), .int .i64 a, .bool b] w (Flagged w F (.int .i64 a) (f || b)) := by
  have hc := hf.cell 0
  have hz := hf.free 0
  have HF := Lib.hid hf
  clear hf
  cases f
  · go_enter Try.func24, Try.ntmps24
    go_wp2
    go_ret
    exact ⟨rfl, grown_set (World.grownBy.refl w _) 0 _, by simpa using HF.out.set 0 (.bool b)⟩
  · go_enter Try.func24, Try.ntmps24
    go_wp2
    go_ret
    exact ⟨rfl, grown_set (World.grownBy.refl w _) 0 _, by simpa using HF.out.set 0 (.bool true)⟩

def addV (a b : Int) : Int := cl (cl a + cl b)
def addO (a b : Int) : Bool := (od a || od b) || od (cl a + cl b)
def subV (a b : Int) : Int := cl (cl a - cl b)
def subO (a b : Int) : Bool := (od a || od b) || od (cl a - cl b)
def mulR (a b : Int) : Int × Bool := flag (od a || od b) (sg (sz (cl a) * sz (cl b) / 309485009821345068724781056) (lw (sz (cl a) * sz (cl b))) ((decide (cl a < 0)) != (decide (cl b < 0))))
def mulV (a b : Int) : Int := (mulR a b).1
def mulO (a b : Int) : Bool := (mulR a b).2
def divV (a b : Int) : Int := (dvs a b).1
def divO (a b : Int) : Bool := (dvs a b).2
def Both (w : World) (v : Int) (o : Bool) (e : Ending) (w' : World) : Prop := e = .returned (.tuple #[.int .i64 v, .bool o]) ∧ Below w.heap.size w w'
theorem add_calls (a b : Int) (w : World) : Calls Try.prog 42 #[.int .i64 a, .int .i64 b] w (Both w (addV a b) (addO a b)) := qfix_Add.calls a b _ _ w (add_f a b)
theorem sub_calls (a b : Int) (w : World) : Calls Try.prog 41 #[.int .i64 a, .int .i64 b] w (Both w (subV a b) (subO a b)) := qfix_Sub.calls a b _ _ w (sub_f a b)
theorem mul_calls (a b : Int) (w : World) : Calls Try.prog 25 #[.int .i64 a, .int .i64 b] w (Both w (mulV a b) (mulO a b)) := qfix_Mul.calls a b _ _ w (mul_f a b)
theorem div_calls (a b : Int) (w : World) : Calls Try.prog 32 #[.int .i64 a, .int .i64 b] w (Both w (divV a b) (divO a b)) := by
  obtain ⟨k, h⟩ := (div_f a b).rounds
  exact qfix_Div.calls k a b _ _ w h

theorem less_calls (F : Nat) (f : Bool) (a : Int) (w : World) (hf : Flag w F f) : Calls Try.prog 26 #[.pointer (some ⟨F, 0, none⟩), .int .i64 a] w (Flagged w F (.int .i64 (subV 0 a)) (f || subO 0 a)) := by
  have hl := hf.lt
  have HF := Lib.hid hf
  clear hf
  go_enter Try.func26, Try.ntmps26
  go_wp2_with fail
  refine (sub_calls _ _ _).mono ?_
  rintro e w1 ⟨rfl, hb⟩
  have H1 := Lib.hid (HF.out.below hb hl)
  have HB := Lib.hid hb
  clear hb
  go_wp2_with fail
  refine (one_calls F f _ _ _ H1.out).mono ?_
  rintro e w2 ⟨rfl, hg, hf2⟩
  have HG := Lib.hid (grown_trans (grown_of_below HB.out _) hg)
  have H2 := Lib.hid hf2
  clear hg hf2
  go_wp2
  go_ret
  exact ⟨rfl, HG.out, H2.out⟩

/-- three numbers, by place -/
def at3 (x y z : Int) : Nat → Int
  | 0 => x
  | 1 => y
  | _ => z
theorem at3_cell {w : World} {B T : Nat} {x y z : Int} (h : Row w B T #[.int .i64 x, .int .i64 y, .int .i64 z]) (k : Nat) (hk : k < 3) : w.cell? ⟨B, k, none⟩ = some (.int .i64 (at3 x y z k)) := by
  rw [h.cell]
  obtain rfl | rfl | rfl : k = 0 ∨ k = 1 ∨ k = 2 := by omega
  all_goals rfl
/-- a sum of k more, and its flag -/
def sumV (e : Nat → Int) (a : Int) : Nat → Int
  | 0 => a
  | k + 1 => addV (sumV e a k) (e k)
def sumO (e : Nat → Int) (f : Bool) (a : Int) : Nat → Bool
  | 0 => f
  | k + 1 => sumO e f a k || addO (sumV e a k) (e k)
set_option maxHeartbeats 1000000 in
theorem sum_calls (F B c T : Nat) (f : Bool) (a x y z : Int) (w : World) (hf : Flag w F f) (hr : Row w B T #[.int .i64 x, .int .i64 y, .int .i64 z]) (hne : B ≠ F) :
    Calls Try.prog 28 #[.pointer (some ⟨F, 0, none⟩), .int .i64 a, .slice (some ⟨B, 0, none⟩) 3 c] w (Flagged w F (.int .i64 (sumV (at3 x y z) a 3)) (sumO (at3 x y z) f a 3)) := by
  have HF := Lib.hid hf
  have HR := Lib.hid hr
  have HN := Lib.hid hne
  clear hf hr hne
  go_enter Try.func28, Try.ntmps28
  go_wp2
  go_loopw [1, 11] (fun s i wr => ∃ k : Nat, k ≤ 3 ∧ i = .int .i64 k ∧ s = .int .i64 (sumV (at3 x y z) a k) ∧ Hid (Flag wr F (sumO (at3 x y z) f a k)) ∧ Hid (Row wr B T #[.int .i64 x, .int .i64 y, .int .i64 z]) ∧ Hid (w.grownBy wr (some F))) (fun _ i _ => 3 - (intOf i).toNat)
  case atStart => exact ⟨0, by omega, rfl, rfl, HF, HR, Lib.hid (World.grownBy.refl w _)⟩
  case round =>
    obtain ⟨k, hk, rfl, rfl, H1, H2, H3⟩ := hrel
    by_cases hlt : k < 3
    · have hc := at3_cell H2.out k hlt
      go_wp2_with fail
      refine (add_calls _ _ _).mono ?_
      rintro e w1 ⟨rfl, hb⟩
      have H4 := Lib.hid (H1.out.below hb H1.out.lt)
      have H5 := Lib.hid (H2.out.below hb H2.out.lt)
      have HB := Lib.hid hb
      clear hb hc
      go_wp2_with fail
      refine (one_calls F _ _ _ _ H4.out).mono ?_
      rintro e w2 ⟨rfl, hg, hf2⟩
      have H6 := Lib.hid (H5.out.grown hg (by simpa using HN.out))
      have H7 := Lib.hid (grown_trans (grown_trans H3.out (grown_of_below HB.out _)) hg)
      have H8 := Lib.hid hf2
      clear hg hf2
      go_wp2
      go_roundw
      case rel => exact ⟨k + 1, by omega, by go_num, rfl, H8, H6, H7⟩
      case measure => simp [intOf]; omega
    · have hk3 : 3 ≤ k := by omega
      go_wp2
      go_ret
      obtain rfl : k = 3 := by omega
      exact ⟨rfl, H3.out, H1.out⟩
end Go.Proofs.Ytmjncjaalleblaa.PQ
