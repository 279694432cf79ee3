import Derived.Test.YtbchepdaomhgeaaMO
import Derived.Test.YtbchepdaomhgeaaMTl
import Derived.Lib.Hide
/- Layer 14: two desks, a vector and two numbers, in one struct, as an argument. -/
namespace Go.Proofs.Ytbchepdaomhgeaa.MM
open Go.ChangeShapes Go.WideShapes Go.ChangeAt Go.RowKit Go.Deep
set_option linter.unusedVariables false
set_option linter.unusedSimpArgs false
theorem k57 : Try.prog.cellsOf 57 = 19 := by kernel_rfl
theorem b37 : Try.prog.bytesOf 37 = 32 := by kernel_rfl
theorem len19 {α : Type} {l : List α} (h : l.length = 19) : ∃ a b c d e f g a1 b1 c1 d1 e1 f1 g1 h i j k m, l = [a, b, c, d, e, f, g, a1, b1, c1, d1, e1, f1, g1, h, i, j, k, m] := by
  match l, h with
  | [a, b, c, d, e, f, g, a1, b1, c1, d1, e1, f1, g1, h, i, j, k, m], _ => exact ⟨a, b, c, d, e, f, g, a1, b1, c1, d1, e1, f1, g1, h, i, j, k, m, rfl⟩
section
variable {H : Type} {enc : TypeId × Value → H} {W : World} {base : Nat} {sp : Nat → Bool} {held : Bool} {fuel : Nat} {cs : List Value} {x : DataW H × List MemPlace}
theorem size_outs {A : Option Addr} {n c : Nat} (h : DataW.trod enc Try.prog W base sp held fuel 24 [.slice A n c] = some x) (hw : ∀ k ∈ x.1.weights Try.prog 24, k ≤ reachBytes) : n ≤ 10000000000000 := by
  rcases DataW.trod_slice Try.underlying24 h with ⟨h, _⟩ | ⟨a, len, cap, elems, rest, m, _, hq, rfl, _, _, _, hl, _⟩
  · simp at h; omega
  · simp at hq
    obtain ⟨_, hn, _⟩ := hq
    have := hw ((elems.length + rest.length) * 32) (by simp [DataW.weights, Try.underlying24, b37])
    simp only [reachBytes] at this
    subst hn
    omega
theorem size_desk {d : Dk} {A : Option Addr} {n c : Nat} (h : DataW.trod enc Try.prog W base sp held fuel 26 (d.row (.slice A n c)).toList = some x) (hw : ∀ k ∈ x.1.weights Try.prog 26, k ≤ reachBytes) : n ≤ 10000000000000 := by
  obtain ⟨xs, m, _, rfl, hl, hlen, hf⟩ := DataW.trod_struct Try.underlying26 h
  have hl7 : xs.length = 7 := hlen
  have h6 := (fld hf 6 24 6 1 rfl k24).trans (List.getElem?_eq_getElem (show 6 < xs.length by omega))
  refine size_outs (A := A) (c := c) h6 fun k hk => hw k ?_
  simp only [DataW.weights, Try.underlying26]
  exact DataW.weights_mem_each (j := 6) (t := 24) rfl (by rw [List.getElem?_map, List.getElem?_eq_getElem (show 6 < xs.length by omega)]; rfl) k hk
theorem open_tells (h : DataW.trod enc Try.prog W base sp held fuel 57 cs = some x) (hw : ∀ k ∈ x.1.weights Try.prog 57, k ≤ reachBytes) :
    ∃ d s l d' s' m ya yb yc a b, cs = (row57 d s d' s' ya yb yc a b).toList ∧ Sl W s l ∧ Sl W s' m ∧ l.length ≤ 10000000000000 ∧ m.length ≤ 10000000000000 := by
  obtain ⟨xs, n, _, rfl, hl, hlen, hf⟩ := DataW.trod_struct Try.underlying57 h
  rw [k57] at hl
  obtain ⟨c0, c1, c2, c3, c4, c5, c6, c7, c8, c9, c10, c11, c12, c13, c14, c15, c16, c17, c18, rfl⟩ := len19 hl
  have hl5 : xs.length = 5 := hlen
  have get : ∀ i (h : i < 5), xs[i]? = some (xs[i]'(by omega)) := fun i h => List.getElem?_eq_getElem (by omega)
  have h0 := (fld hf 0 26 0 7 rfl k26).trans (get 0 (by omega))
  have h1 := (fld hf 1 26 7 7 rfl k26).trans (get 1 (by omega))
  have h2 := (fld hf 2 33 14 3 rfl k33).trans (get 2 (by omega))
  have h3 := (fld hf 3 2 17 1 rfl k2).trans (get 3 (by omega))
  have h4 := (fld hf 4 2 18 1 rfl k2).trans (get 4 (by omega))
  have w0 : ∀ k ∈ (xs[0]'(by omega)).1.weights Try.prog 26, k ≤ reachBytes := fun k hk => hw k (by
    simp only [DataW.weights, Try.underlying57]
    exact DataW.weights_mem_each (j := 0) (t := 26) rfl (by rw [List.getElem?_map, get 0 (by omega)]; rfl) k hk)
  have w1 : ∀ k ∈ (xs[1]'(by omega)).1.weights Try.prog 26, k ≤ reachBytes := fun k hk => hw k (by
    simp only [DataW.weights, Try.underlying57]
    exact DataW.weights_mem_each (j := 1) (t := 26) rfl (by rw [List.getElem?_map, get 1 (by omega)]; rfl) k hk)
  obtain ⟨d, s, l, e0, hs⟩ := open_desk h0
  obtain ⟨d', s', m, e1, hs'⟩ := open_desk h1
  obtain ⟨ya, yb, yc, e2⟩ := open_vec h2
  obtain ⟨a, e3, _, _⟩ := DataW.trod_int Try.underlying2 h3
  obtain ⟨b, e4, _, _⟩ := DataW.trod_int Try.underlying2 h4
  obtain ⟨A, c, rfl, _⟩ := id hs
  obtain ⟨A', c', rfl, _⟩ := id hs'
  rw [e0] at h0
  rw [e1] at h1
  have z0 := size_desk h0 w0
  have z1 := size_desk h1 w1
  simp at e0 e1 e2 e3 e4
  obtain ⟨r0, r1, r2, r3, r4, r5, r6⟩ := e0
  obtain ⟨q0, q1, q2, q3, q4, q5, q6⟩ := e1
  obtain ⟨p0, p1, p2⟩ := e2
  subst r0 r1 r2 r3 r4 r5 r6 q0 q1 q2 q3 q4 q5 q6 p0 p1 p2 e3 e4
  exact ⟨d, _, l, d', _, m, ya, yb, yc, a, b, rfl, hs, hs', z0, z1⟩
end
end Go.Proofs.Ytbchepdaomhgeaa.MM
