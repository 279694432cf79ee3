import Derived.Test.YtbchepdaomhgeaaMB
/- Layer 14: copies; what may be put out. -/
namespace Go.Proofs.Ytbchepdaomhgeaa.MM
open Go.RowKit
set_option linter.unusedVariables false
set_option linter.unusedSimpArgs false
/-- a slice that reads as these outputs -/
def Sl (w : World) (v : Value) (l : List Ot) : Prop := ∃ A c, v = .slice A l.length c ∧ l.length ≤ c ∧ (A = none → c = 0) ∧ Wts w w.heap.size A l
def outCells (l : List Ot) : List Value := l.flatMap fun o => [I o.k, I o.a, I o.b, I o.c]
theorem outCells_length (l : List Ot) : (outCells l).length = l.length * 4 := by
  induction l with
  | nil => rfl
  | cons x l ih => simp only [outCells, List.flatMap_cons, List.length_append, List.length_cons, List.length_nil] at ih ⊢; omega
theorem outCells_one (l : List Ot) : ∀ u ∈ outCells l, u.oneCell' = true := by
  intro u hu
  simp only [outCells, List.mem_flatMap] at hu
  obtain ⟨o, _, h⟩ := hu
  simp at h
  rcases h with rfl | rfl | rfl | rfl <;> rfl
theorem outCells_at : ∀ (l : List Ot) (i : Nat) (o : Ot), l[i]? = some o → (outCells l)[i * 4]? = some (I o.k) ∧ (outCells l)[i * 4 + 1]? = some (I o.a) ∧ (outCells l)[i * 4 + 2]? = some (I o.b) ∧ (outCells l)[i * 4 + 3]? = some (I o.c) := by
  intro l
  induction l with
  | nil => intro i o h; simp at h
  | cons x l ih =>
    intro i o h
    have e : outCells (x :: l) = I x.k :: I x.a :: I x.b :: I x.c :: outCells l := rfl
    cases i with
    | zero => simp at h; subst h; rw [e]; simp
    | succ i =>
      have := ih i o (by simpa using h)
      rw [e, show (i + 1) * 4 = i * 4 + 1 + 1 + 1 + 1 by omega]
      simpa [Nat.add_assoc] using this
theorem outCells_some : ∀ (l : List Ot) (j : Nat) (u : Value), (outCells l)[j]? = some u → ∃ i o, l[i]? = some o ∧ ((j = i * 4 ∧ u = I o.k) ∨ (j = i * 4 + 1 ∧ u = I o.a) ∨ (j = i * 4 + 2 ∧ u = I o.b) ∨ (j = i * 4 + 3 ∧ u = I o.c)) := by
  intro l j u h
  have hj : j < (outCells l).length := by
    rcases Nat.lt_or_ge j (outCells l).length with hl | hl
    · exact hl
    · rw [List.getElem?_eq_none hl] at h; cases h
  rw [outCells_length] at hj
  have ho : l[j / 4]? = some (l[j / 4]'(by omega)) := List.getElem?_eq_getElem (by omega)
  obtain ⟨h0, h1, h2, h3⟩ := outCells_at l _ _ ho
  refine ⟨j / 4, _, ho, ?_⟩
  generalize l[j / 4]'(by omega) = o at *
  have hr : j = j / 4 * 4 ∨ j = j / 4 * 4 + 1 ∨ j = j / 4 * 4 + 2 ∨ j = j / 4 * 4 + 3 := by omega
  rcases hr with e | e | e | e
  · rw [← e, h] at h0; injection h0 with h0; exact .inl ⟨e, h0⟩
  · rw [← e, h] at h1; injection h1 with h1; exact .inr (.inl ⟨e, h1⟩)
  · rw [← e, h] at h2; injection h2 with h2; exact .inr (.inr (.inl ⟨e, h2⟩))
  · rw [← e, h] at h3; injection h3 with h3; exact .inr (.inr (.inr ⟨e, h3⟩))
theorem Wts.flat {w : World} {B : Nat} {ad : Addr} {l : List Ot} (h : Wts w B (some ad) l) : ∀ j u, (outCells l)[j]? = some u → w.cell? (ad.add j) = some u := by
  intro j u hj
  obtain ⟨i, o, ho, hx⟩ := outCells_some l j u hj
  obtain ⟨b, off, e, hb, hc⟩ := h (by intro e; subst e; simp at ho)
  injection e with e
  subst e
  obtain ⟨c0, c1, c2, c3⟩ := hc i o ho
  have ea : ∀ n, (⟨b, off, none⟩ : Addr).add n = ⟨b, off + n, none⟩ := fun n => by unfold Addr.add; split <;> simp_all
  rw [ea]
  rcases hx with ⟨rfl, rfl⟩ | ⟨rfl, rfl⟩ | ⟨rfl, rfl⟩ | ⟨rfl, rfl⟩
  · exact c0
  · exact c1
  · exact c2
  · exact c3
theorem Sl.of_own {w : World} {base : Nat} {v : Value} {l : List Ot} {n : Nat} (h : w.ownsRow base 37 4 v n (outCells l)) (hn : n = l.length) : Sl w v l := by
  subst hn
  rcases h.2 with ⟨rfl, h0⟩ | ⟨g, cap, cur, rfl, hb, hg, hle, _⟩
  · obtain rfl := List.eq_nil_of_length_eq_zero h0
    exact ⟨none, 0, rfl, by simp, fun _ => rfl, Wts.nil _ _ _⟩
  · refine ⟨_, _, rfl, hle, (fun e => by cases e), fun _ => ⟨g, 0, rfl, ?_, fun i o ho => ?_⟩⟩
    · rcases Nat.lt_or_ge g w.heap.size with hl | hl
      · exact hl
      · rw [Array.getElem?_eq_none hl] at hg; cases hg
    · obtain ⟨h0, h1, h2, h3⟩ := outCells_at l i o ho
      have ea : ∀ n, (⟨g, 0, none⟩ : Addr).add n = ⟨g, n, none⟩ := fun n => by unfold Addr.add; split <;> simp_all
      have hc := h.cells (g := g) rfl
      rw [Nat.zero_add]
      refine ⟨?_, ?_, ?_, ?_⟩
      · have := hc _ _ h0; rwa [ea] at this
      · have := hc _ _ h1; rwa [ea] at this
      · have := hc _ _ h2; rwa [ea] at this
      · have := hc _ _ h3; rwa [ea] at this
theorem out_info : (Try.prog.info? 37).map (fun i => (i.zero, i.size, i.bytes)) = some (some (.agg #[I 0, I 0, I 0, I 0]), 4, 32) := by kernel_rfl
theorem clone_calls (A : Option Addr) (c : Nat) (l : List Ot) (w : World) (hw : Wts w w.heap.size A l) (hlen : l.length ≤ 64) (hA : A = none → l.length = 0 ∧ c = 0) :
    Calls Try.prog 37 #[.slice A l.length c] w fun e w' => ∃ v, e = .returned v ∧ Sl w' v l ∧ (∀ g, v.ownBlock = some g → w.heap.size ≤ g) ∧ Below w.heap.size w w' := by
  cases A with
  | none =>
    obtain ⟨hl, rfl⟩ := hA rfl
    obtain rfl := List.eq_nil_of_length_eq_zero hl
    have he : ∀ w : World, (binOp .eql 24 (.slice none 0 0) (.slice none 0 0)).run Try.prog w = .ok (.bool true) w := fun _ => rfl
    go_enter Try.func37, Try.ntmps37
    go_wp2
    go_ret
    exact ⟨_, rfl, ⟨none, 0, rfl, by simp, fun _ => rfl, Wts.nil _ _ _⟩, fun g h => by simp [Value.ownBlock] at h, Below.refl _ _⟩
  | some ad =>
    have HW := Lib.hid hw
    have HL := Lib.hid hlen
    clear hw hlen hA
    go_enter Try.func37, Try.ntmps37
    have he : ∀ w : World, (binOp .eql 24 (.slice (some ad) l.length c) (.slice none 0 0)).run Try.prog w = .ok (.bool false) w := fun _ => rfl
    obtain ⟨i0, hi0, hz0, hz1, hz2⟩ := info_parts out_info
    go_wp2_with (at_builtin
                 refine wpList_append_own_at _ rfl (.tmp 5) (.tmp 6) _ rfl w.heap.size 37 i0 _ 4 32 Try.underlying24 hi0 hz0 hz1 hz2 rfl (by omega) (.slice (some ⟨w.heap.size, 0, none⟩) 0 0) 0 [] rfl ?own ad l.length c (outCells l) rfl (outCells_length l) ?news (outCells_one l) ?h63 ?hby ?base ?_
                 case own => exact ⟨rfl, .inr ⟨_, 0, #[], rfl, Nat.le_refl _, heap_alloc_new w _, Nat.le_refl _, by simp [maxLen], rfl, rfl⟩⟩
                 case news => exact (HW.out.alloc (Nat.le_refl _) _).flat
                 case h63 => (have := HL.out; simp only [maxLen]; omega)
                 case hby => (have := HL.out; omega)
                 case base => simp
                 intro v' w' hown hgrow hnil hat)
    go_ret
    exact ⟨v', rfl, Sl.of_own hown (by simp), fun g hg => by rcases hat with e | e <;> rw [e] at hg <;> simp [Value.ownBlock] at hg <;> omega, ((Below.refl _ _).alloc (Nat.le_refl _) _).grown hgrow (by simp) (by intro k hk; simp [Value.ownBlock] at hk; omega)⟩
end Go.Proofs.Ytbchepdaomhgeaa.MM
