import Derived.Test.YtbchepdaomhgeaaMO
import Derived.Test.YtbchepdaomhgeaaMV
/- Layer 14: scripts as arguments. -/
namespace Go.Proofs.Ytbchepdaomhgeaa.MM
open Go.ChangeShapes Go.WideShapes Go.ChangeAt Go.RowKit Go.Deep
set_option linter.unusedVariables false
set_option linter.unusedSimpArgs false
theorem k49 : Try.prog.cellsOf 49 = 3 := by kernel_rfl
section
variable {H : Type} {enc : TypeId × Value → H} {W : World} {base : Nat} {sp : Nat → Bool} {held : Bool} {fuel : Nat} {cs : List Value} {x : DataW H × List MemPlace}
theorem open_act (h : DataW.trod enc Try.prog W base sp held fuel 49 cs = some x) : ∃ a b c, cs = [I a, I b, I c] := by
  obtain ⟨xs, n, _, _, hl, hlen, hf⟩ := DataW.trod_struct Try.underlying49 h
  rw [k49] at hl
  obtain ⟨c0, c1, c2, rfl⟩ := len3 hl
  have hl3 : xs.length = 3 := hlen
  have get : ∀ i (h : i < 3), xs[i]? = some (xs[i]'(by omega)) := fun i h => List.getElem?_eq_getElem (by omega)
  have h0 := (fld hf 0 3 0 1 rfl k3).trans (get 0 (by omega))
  have h1 := (fld hf 1 2 1 1 rfl k2).trans (get 1 (by omega))
  have h2 := (fld hf 2 2 2 1 rfl k2).trans (get 2 (by omega))
  obtain ⟨x0, e0, _, _⟩ := DataW.trod_int Try.underlying3 h0
  obtain ⟨x1, e1, _, _⟩ := DataW.trod_int Try.underlying2 h1
  obtain ⟨x2, e2, _, _⟩ := DataW.trod_int Try.underlying2 h2
  simp at e0 e1 e2
  subst e0 e1 e2
  exact ⟨_, _, _, rfl⟩
theorem open_acts (h : DataW.trod enc Try.prog W base sp held fuel 47 cs = some x) : ∃ A c l, cs = [.slice A (l : List Vc).length c] ∧ l.length ≤ c ∧ Vts W W.heap.size A l := by
  rcases open_slice Try.underlying47 h with ⟨rfl, _⟩ | ⟨a, len, cap, m, n, D, Pl, rfl, hb, hl, hm, hmm, hx, hi⟩
  · exact ⟨none, 0, [], rfl, by simp, fun h => absurd rfl h⟩
  · have hle : len ≤ m := by rw [hmm]; split <;> omega
    have key : ∀ i, i < len → ∃ o : Vc, W.cell? ((a.add (i * 3)).add 0) = some (I o.a) ∧ W.cell? ((a.add (i * 3)).add 1) = some (I o.b) ∧ W.cell? ((a.add (i * 3)).add 2) = some (I o.c) := by
      intro i hil
      obtain ⟨cs', hc, ht⟩ := hi i (by omega)
      rw [k49] at hc
      obtain ⟨_, _, hat⟩ := World.cells?_some hc
      obtain ⟨x, y, z, rfl⟩ := open_act ht
      exact ⟨⟨x, y, z⟩, hat 0 (by omega), hat 1 (by omega), hat 2 (by omega)⟩
    obtain ⟨l, hlen, hk⟩ := choose_list key
    subst hlen
    refine ⟨some a, cap, l, rfl, hl, fun hne => ?_⟩
    have h0 : 0 < l.length := List.length_pos_iff.2 hne
    have hf := (hk 0 _ (List.getElem?_eq_getElem h0)).1
    simp only [add_add, Nat.zero_mul, Nat.add_zero] at hf
    have ea0 : a.add 0 = a := by simp [Addr.add]
    rw [ea0] at hf
    have hs := spot_of_cell hf
    obtain ⟨ab, ao, asp⟩ := a
    injection hs with _ _ hs
    subst hs
    refine ⟨ab, ao, rfl, cell_lt hf, fun i o ho => ?_⟩
    have := hk i o ho
    simp only [Addr.add_lit] at this
    simpa only [Nat.add_zero, Nat.add_assoc] using this
end
end Go.Proofs.Ytbchepdaomhgeaa.MM
