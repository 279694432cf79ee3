import Derived.Test.YtbchepdaomhgeaaMO
import Derived.Test.YtbchepdaomhgeaaMN
/- Layer 14: a desk and numbers, in one struct, as an argument. -/
namespace Go.Proofs.Ytbchepdaomhgeaa.MM
open Go.ChangeShapes Go.WideShapes Go.ChangeAt Go.RowKit Go.Deep
set_option linter.unusedVariables false
set_option linter.unusedSimpArgs false
theorem k54 : Try.prog.cellsOf 54 = 10 := by kernel_rfl
theorem k5 : Try.prog.cellsOf 5 = 1 := by kernel_rfl
theorem len10 {α : Type} {l : List α} (h : l.length = 10) : ∃ a b c d e f g h i j, l = [a, b, c, d, e, f, g, h, i, j] := by
  match l, h with
  | [a, b, c, d, e, f, g, h, i, j], _ => exact ⟨a, b, c, d, e, f, g, h, i, j, rfl⟩
section
variable {H : Type} {enc : TypeId × Value → H} {W : World} {base : Nat} {sp : Nat → Bool} {held : Bool} {fuel : Nat} {cs : List Value} {x : DataW H × List MemPlace}
theorem open_nums (h : DataW.trod enc Try.prog W base sp held fuel 54 cs = some x) : ∃ d s l a b y, cs = (row54 d s a b y).toList ∧ Sl W s l ∧ 0 ≤ y ∧ y ≤ 255 := by
  obtain ⟨xs, n, _, _, hl, hlen, hf⟩ := DataW.trod_struct Try.underlying54 h
  rw [k54] at hl
  obtain ⟨c0, c1, c2, c3, c4, c5, c6, c7, c8, c9, rfl⟩ := len10 hl
  have hl4 : xs.length = 4 := hlen
  have get : ∀ i (h : i < 4), xs[i]? = some (xs[i]'(by omega)) := fun i h => List.getElem?_eq_getElem (by omega)
  have h0 := (fld hf 0 26 0 7 rfl k26).trans (get 0 (by omega))
  have h1 := (fld hf 1 2 7 1 rfl k2).trans (get 1 (by omega))
  have h2 := (fld hf 2 2 8 1 rfl k2).trans (get 2 (by omega))
  have h3 := (fld hf 3 5 9 1 rfl k5).trans (get 3 (by omega))
  obtain ⟨d, s, l, e0, hs⟩ := open_desk h0
  obtain ⟨x1, e1, _, _⟩ := DataW.trod_int Try.underlying2 h1
  obtain ⟨x2, e2, _, _⟩ := DataW.trod_int Try.underlying2 h2
  obtain ⟨x3, e3, _, w3⟩ := DataW.trod_int Try.underlying5 h3
  simp at e0 e1 e2 e3
  obtain ⟨r0, r1, r2, r3, r4, r5, r6⟩ := e0
  subst r0 r1 r2 r3 r4 r5 r6 e1 e2 e3
  exact ⟨d, _, l, x1, x2, x3, rfl, hs, by simpa [Lit.wf, IntKind.has, IntKind.min, IntKind.max, IntKind.signed, IntKind.bits] using w3⟩
end
end Go.Proofs.Ytbchepdaomhgeaa.MM
