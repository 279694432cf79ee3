import Derived.Test.YtbchepdaomhgeaaRows
import Derived.Test.YtbchepdaomhgeaaMI
import Derived.ProofKit
import Derived.OpenShut
import Derived.ShutString
import Derived.ChangeOld
import Derived.ChangeSame
import Derived.SizedLaws
import Derived.Laws.IdiomArrays
import Derived.Deep.Slices
import Derived.Carry
/- Layer 14: desks, outputs and vectors as arguments. -/
namespace Go.Proofs.Ytbchepdaomhgeaa.MM
open Go.ChangeShapes Go.WideShapes Go.ChangeAt Go.RowKit Go.Deep
set_option linter.unusedVariables false
set_option linter.unusedSimpArgs false
theorem k31 : Try.prog.cellsOf 31 = 1 := by kernel_rfl
theorem k33 : Try.prog.cellsOf 33 = 3 := by kernel_rfl
theorem k37 : Try.prog.cellsOf 37 = 4 := by kernel_rfl
theorem k26 : Try.prog.cellsOf 26 = 7 := by kernel_rfl
theorem k24 : Try.prog.cellsOf 24 = 1 := by kernel_rfl
theorem k2 : Try.prog.cellsOf 2 = 1 := by kernel_rfl
theorem k3 : Try.prog.cellsOf 3 = 1 := by kernel_rfl
theorem laidOut : laidOutB Try.prog = true := by kernel_rfl
theorem len3 {α : Type} {l : List α} (h : l.length = 3) : ∃ a b c, l = [a, b, c] := by
  match l, h with
  | [a, b, c], _ => exact ⟨a, b, c, rfl⟩
theorem len4 {α : Type} {l : List α} (h : l.length = 4) : ∃ a b c d, l = [a, b, c, d] := by
  match l, h with
  | [a, b, c, d], _ => exact ⟨a, b, c, d, rfl⟩
theorem len7 {α : Type} {l : List α} (h : l.length = 7) : ∃ a b c d e f g, l = [a, b, c, d, e, f, g] := by
  match l, h with
  | [a, b, c, d, e, f, g], _ => exact ⟨a, b, c, d, e, f, g, rfl⟩
section
variable {H : Type} {enc : TypeId × Value → H} {W : World} {base : Nat} {sp : Nat → Bool} {held : Bool} {fuel : Nat} {cs : List Value} {x : DataW H × List MemPlace}
theorem open_vec (h : DataW.trod enc Try.prog W base sp held fuel 33 cs = some x) : ∃ a b c, cs = [I a, I b, I c] := by
  obtain ⟨_, _, _, _, hl, _⟩ := DataW.trod_array Try.underlying33 h
  rw [k33] at hl
  obtain ⟨c0, c1, c2, rfl⟩ := len3 hl
  obtain ⟨y0, y1, y2, m, hx, hy0, hy1, hy2⟩ := trod_array3 Try.underlying33 k31 h
  obtain ⟨x0, e0, _, _⟩ := DataW.trod_int Try.underlying31 hy0
  obtain ⟨x1, e1, _, _⟩ := DataW.trod_int Try.underlying31 hy1
  obtain ⟨x2, e2, _, _⟩ := DataW.trod_int Try.underlying31 hy2
  simp at e0 e1 e2
  subst e0 e1 e2
  exact ⟨_, _, _, rfl⟩
theorem fld {fs : Array Field} {n : Nat} {xs : List (DataW H × List MemPlace)} (hf : ∀ (i : Nat) (f : Field), fs[i]? = some f → DataW.trod enc Try.prog W base sp held n f.type ((cs.drop f.offset).take (Try.prog.cellsOf f.type)) = xs[i]?)
    (i : Nat) (t : TypeId) (o k : Nat) (h : (fs[i]?).map (fun f => (f.type, f.offset)) = some (t, o)) (hk : Try.prog.cellsOf t = k) : DataW.trod enc Try.prog W base sp held n t ((cs.drop o).take k) = xs[i]? := by
  cases e : fs[i]? with
  | none => rw [e] at h; cases h
  | some f =>
    rw [e] at h
    simp at h
    obtain ⟨rfl, rfl⟩ := h
    subst hk
    exact hf i f e
theorem open_out (h : DataW.trod enc Try.prog W base sp held fuel 37 cs = some x) : ∃ k a b c, cs = [I k, I a, I b, I c] := by
  obtain ⟨xs, n, _, _, hl, hlen, hf⟩ := DataW.trod_struct Try.underlying37 h
  rw [k37] at hl
  obtain ⟨c0, c1, c2, c3, rfl⟩ := len4 hl
  have h0 := fld hf 0 2 0 1 rfl k2
  have h1 := fld hf 1 33 1 3 rfl k33
  have hs0 : xs[0]? = some (xs[0]'(by rw [hlen]; decide)) := List.getElem?_eq_getElem _
  have hs1 : xs[1]? = some (xs[1]'(by rw [hlen]; decide)) := List.getElem?_eq_getElem _
  rw [hs0] at h0
  rw [hs1] at h1
  obtain ⟨k, e0, _, _⟩ := DataW.trod_int Try.underlying2 h0
  obtain ⟨a, b, c, e1⟩ := open_vec h1
  simp at e0 e1
  obtain ⟨rfl, rfl, rfl⟩ := e1
  subst e0
  exact ⟨_, _, _, _, rfl⟩
theorem block_of_add (a : Addr) (n : Nat) : (a.add n).block = a.block := by unfold Addr.add; split <;> rfl
theorem spot_of_cell {w : World} {a : Addr} {v : Value} (h : w.cell? a = some v) : a = ⟨a.block, a.off, none⟩ := by
  obtain ⟨b, o, s⟩ := a
  unfold World.cell? at h
  split at h
  · split at h
    · cases h
    · rename_i hs; cases s with
      | none => rfl
      | some y => simp at hs
  · cases h
theorem choose_list {α : Type} [Inhabited α] {n : Nat} {p : Nat → α → Prop} (h : ∀ i, i < n → ∃ x, p i x) : ∃ l : List α, l.length = n ∧ ∀ i x, l[i]? = some x → p i x := by
  obtain ⟨f, hf⟩ := choose_lt h
  refine ⟨(List.range n).map f, by simp, fun i x hx => ?_⟩
  simp only [List.getElem?_map, List.getElem?_range] at hx
  have hi : i < n := by
    rcases Nat.lt_or_ge i n with hl | hl
    · exact hl
    · rw [List.getElem?_eq_none (by simpa using hl)] at hx; simp at hx
  rw [List.getElem?_eq_getElem (by simpa using hi)] at hx
  simp at hx
  subst hx
  exact hf i hi
instance : Inhabited Ot := ⟨⟨0, 0, 0, 0⟩⟩
instance : Inhabited Vc := ⟨⟨0, 0, 0⟩⟩
theorem open_outs (h : DataW.trod enc Try.prog W base sp held fuel 24 cs = some x) : ∃ A c l, cs = [.slice A (l : List Ot).length c] ∧ l.length ≤ c ∧ (A = none → c = 0) ∧ Wts W W.heap.size A l := by
  rcases open_slice Try.underlying24 h with ⟨rfl, _⟩ | ⟨a, len, cap, m, n, D, Pl, rfl, hb, hl, hm, hmm, hx, hi⟩
  · exact ⟨none, 0, [], rfl, by simp, fun _ => rfl, Wts.nil _ _ _⟩
  · have hle : len ≤ m := by rw [hmm]; split <;> omega
    have key : ∀ i, i < len → ∃ o : Ot, W.cell? ((a.add (i * 4)).add 0) = some (I o.k) ∧ W.cell? ((a.add (i * 4)).add 1) = some (I o.a) ∧ W.cell? ((a.add (i * 4)).add 2) = some (I o.b) ∧ W.cell? ((a.add (i * 4)).add 3) = some (I o.c) := by
      intro i hil
      obtain ⟨cs', hc, ht⟩ := hi i (by omega)
      rw [k37] at hc
      obtain ⟨_, _, hat⟩ := World.cells?_some hc
      obtain ⟨k, x, y, z, rfl⟩ := open_out ht
      exact ⟨⟨k, x, y, z⟩, hat 0 (by omega), hat 1 (by omega), hat 2 (by omega), hat 3 (by omega)⟩
    obtain ⟨l, hlen, hk⟩ := choose_list key
    subst hlen
    refine ⟨some a, cap, l, rfl, hl, (fun e => by cases e), fun hne => ?_⟩
    have h0 : 0 < l.length := List.length_pos_iff.2 hne
    have hf := (hk 0 _ (List.getElem?_eq_getElem h0)).1
    simp only [add_add, Nat.zero_mul, Nat.add_zero] at hf
    have ea0 : a.add 0 = a := by simp [Addr.add]
    rw [ea0] at hf
    have hs := spot_of_cell hf
    obtain ⟨ab, ao, asp⟩ := a
    injection hs with _ _ hs
    subst hs
    refine ⟨ab, ao, rfl, cell_lt hf, fun i o ho => ?_⟩
    have := hk i o ho
    simp only [Addr.add_lit] at this
    simpa only [Nat.add_zero, Nat.add_assoc] using this
theorem open_vecs (h : DataW.trod enc Try.prog W base sp held fuel 22 cs = some x) : ∃ A c l, cs = [.slice A (l : List Vc).length c] ∧ l.length ≤ c ∧ Vts W W.heap.size A l := by
  rcases open_slice Try.underlying22 h with ⟨rfl, _⟩ | ⟨a, len, cap, m, n, D, Pl, rfl, hb, hl, hm, hmm, hx, hi⟩
  · exact ⟨none, 0, [], rfl, by simp, fun h => absurd rfl h⟩
  · have hle : len ≤ m := by rw [hmm]; split <;> omega
    have key : ∀ i, i < len → ∃ o : Vc, W.cell? ((a.add (i * 3)).add 0) = some (I o.a) ∧ W.cell? ((a.add (i * 3)).add 1) = some (I o.b) ∧ W.cell? ((a.add (i * 3)).add 2) = some (I o.c) := by
      intro i hil
      obtain ⟨cs', hc, ht⟩ := hi i (by omega)
      rw [k33] at hc
      obtain ⟨_, _, hat⟩ := World.cells?_some hc
      obtain ⟨x, y, z, rfl⟩ := open_vec ht
      exact ⟨⟨x, y, z⟩, hat 0 (by omega), hat 1 (by omega), hat 2 (by omega)⟩
    obtain ⟨l, hlen, hk⟩ := choose_list key
    subst hlen
    refine ⟨some a, cap, l, rfl, hl, fun hne => ?_⟩
    have h0 : 0 < l.length := List.length_pos_iff.2 hne
    have hf := (hk 0 _ (List.getElem?_eq_getElem h0)).1
    simp only [add_add, Nat.zero_mul, Nat.add_zero] at hf
    have ea0 : a.add 0 = a := by simp [Addr.add]
    rw [ea0] at hf
    have hs := spot_of_cell hf
    obtain ⟨ab, ao, asp⟩ := a
    injection hs with _ _ hs
    subst hs
    refine ⟨ab, ao, rfl, cell_lt hf, fun i o ho => ?_⟩
    have := hk i o ho
    simp only [Addr.add_lit] at this
    simpa only [Nat.add_zero, Nat.add_assoc] using this
theorem open_desk (h : DataW.trod enc Try.prog W base sp held fuel 26 cs = some x) : ∃ d s l, cs = (Dk.row d s).toList ∧ Sl W s l := by
  obtain ⟨xs, n, _, _, hl, hlen, hf⟩ := DataW.trod_struct Try.underlying26 h
  rw [k26] at hl
  obtain ⟨c0, c1, c2, c3, c4, c5, c6, rfl⟩ := len7 hl
  have hl7 : xs.length = 7 := hlen
  have get : ∀ i (h : i < 7), xs[i]? = some (xs[i]'(by omega)) := fun i h => List.getElem?_eq_getElem (by omega)
  have h0 := (fld hf 0 2 0 1 rfl k2).trans (get 0 (by omega))
  have h1 := (fld hf 1 2 1 1 rfl k2).trans (get 1 (by omega))
  have h2 := (fld hf 2 2 2 1 rfl k2).trans (get 2 (by omega))
  have h3 := (fld hf 3 2 3 1 rfl k2).trans (get 3 (by omega))
  have h4 := (fld hf 4 3 4 1 rfl k3).trans (get 4 (by omega))
  have h5 := (fld hf 5 2 5 1 rfl k2).trans (get 5 (by omega))
  have h6 := (fld hf 6 24 6 1 rfl k24).trans (get 6 (by omega))
  obtain ⟨x0, e0, _, _⟩ := DataW.trod_int Try.underlying2 h0
  obtain ⟨x1, e1, _, _⟩ := DataW.trod_int Try.underlying2 h1
  obtain ⟨x2, e2, _, _⟩ := DataW.trod_int Try.underlying2 h2
  obtain ⟨x3, e3, _, _⟩ := DataW.trod_int Try.underlying2 h3
  obtain ⟨x4, e4, _, _⟩ := DataW.trod_int Try.underlying3 h4
  obtain ⟨x5, e5, _, _⟩ := DataW.trod_int Try.underlying2 h5
  obtain ⟨A, c, l, e6, hc, hA, hw⟩ := open_outs h6
  simp at e0 e1 e2 e3 e4 e5 e6
  subst e0 e1 e2 e3 e4 e5 e6
  exact ⟨⟨x0, x1, x2, x3, x4, x5⟩, _, l, rfl, ⟨A, c, rfl, hc, hA, hw⟩⟩
end
end Go.Proofs.Ytbchepdaomhgeaa.MM
