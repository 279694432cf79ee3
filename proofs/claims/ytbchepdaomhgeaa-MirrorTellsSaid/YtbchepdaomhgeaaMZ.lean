import Derived.Test.YtbchepdaomhgeaaMY
/- Layer 14: what is laid behind a slice of one's own. -/
namespace Go.Proofs.Ytbchepdaomhgeaa.MM
open Go.RowKit
set_option linter.unusedVariables false
set_option linter.unusedSimpArgs false
theorem app_run (w : World) (ty : TypeId) (base : Nat) (v x : Value) (l m : List Ot) (hown : w.ownsRow base 37 4 v l.length (outCells l)) (hbase : base ≤ w.heap.size) (hx : Sl w x m) (hlen : l.length + m.length ≤ 1000000) :
    ∃ A c w', (Builtin.append_ #[24, 24] ty #[v, x]).run Try.prog w = .ok (.slice A (l ++ m).length c) w' ∧ w'.ownsRow base 37 4 (.slice A (l ++ m).length c) (l ++ m).length (outCells (l ++ m)) ∧ w.grownBy w' v.ownBlock ∧ ((Value.slice A (l ++ m).length c).ownBlock = v.ownBlock ∨ (Value.slice A (l ++ m).length c).ownBlock = some w.heap.size) := by
  obtain ⟨i0, hi0, hz0, hz1, hz2⟩ := info_parts out_info
  obtain ⟨A, c, rfl, hc, hA, hw⟩ := hx
  have form : ∀ (w' : World) (v' : Value), w'.ownsRow base 37 4 v' (l ++ m).length (outCells (l ++ m)) → ∃ A c, v' = .slice A (l ++ m).length c := by
    intro w' v' h
    rcases h.2 with ⟨rfl, h0⟩ | ⟨g, cap, cur, rfl, _⟩
    · exact ⟨none, 0, by rw [h0]⟩
    · exact ⟨_, _, rfl⟩
  cases A with
  | some ad =>
    obtain ⟨v', w', hr, ho, hg, _, hat⟩ := run_append_own_at (P := Try.prog) w base 24 ty 37 i0 _ 4 32 Try.underlying24 hi0 hz0 hz1 hz2 rfl (by omega) v l.length (outCells l) hown ad m.length c (outCells m) (outCells_length m) hw.flat (outCells_one _) (by simp only [maxLen]; omega) (by omega) hbase
    rw [← outCells_append, ← List.length_append] at ho
    obtain ⟨A', c', rfl⟩ := form _ _ ho
    exact ⟨A', c', w', hr, ho, hg, hat⟩
  | none =>
    have hm : m = [] := by
      have := hA rfl
      exact List.eq_nil_of_length_eq_zero (by omega)
    subst hm
    have hc0 : c = 0 := hA rfl
    subst hc0
    have ho := hown
    rw [← List.append_nil l] at ho
    obtain ⟨A', c', rfl⟩ := form _ _ ho
    refine ⟨A', c', w, ?_, ho, ⟨rfl, rfl, rfl, Nat.le_refl _, fun _ _ _ => rfl⟩, .inl rfl⟩
    have hle : l.length ≤ c' := by
      rcases hown.2 with ⟨h, h0⟩ | ⟨g, cap, cur, h, _, _, hle, _⟩
      · omega
      · injection h with _ h1 h2; simp at h1; omega
    have hle' : (l ++ []).length ≤ c' := by simpa using hle
    have hd := Try.underlying24
    cases A' <;> simp [Builtin.append_, run_underlying hd, sizeOf, typeInfo, hi0, Builtin.lenOf, Builtin.firstCells, loadCells, loadCellsFrom, hle, storeCells]
theorem step_app (w : World) {ops : Array Oper} {o : Oper} {a : Act} {K : Act → World → Prop} {Q : Exit → Act → World → Prop} {E : Prop}
    (hg : o.guard = none) (s x : Operand) (hop : o.op = Op.call { callee := Callee.builtin Builtin.append, args := #[s, x], argTypes := #[24, 24] })
    (base : Nat) (v : Value) (l m : List Ot) (hs : a.eval s = v) (hown : w.ownsRow base 37 4 v l.length (outCells l)) (hbase : base ≤ w.heap.size) (hx : Sl w (a.eval x) m) (hlen : l.length + m.length ≤ 1000000)
    (hK : ∀ A c w', w'.ownsRow base 37 4 (.slice A (l ++ m).length c) (l ++ m).length (outCells (l ++ m)) → w.grownBy w' v.ownBlock → ((Value.slice A (l ++ m).length c).ownBlock = v.ownBlock ∨ (Value.slice A (l ++ m).length c).ownBlock = some w.heap.size) → K (a.put o.dst (.slice A (l ++ m).length c)) w') :
    if Region.wanted o (yielded ops a.tmps) = true then Oper.wp Try.prog o a w K Q else E := by
  have hw : Region.wanted o (yielded ops a.tmps) = true := by simp [Region.wanted, hg]
  rw [if_pos hw]
  obtain ⟨A, c, w', hrun, h1, h2, h3⟩ := app_run w o.type base v _ l m hown hbase hx hlen
  unfold Oper.wp
  simp only [execOp, hop, resolve, invoke, builtin, Sem.run_bind, Sem.run_pure, Result.andThen_ok, List.map_toArray, List.map_cons, List.map_nil, hs, hrun]
  exact hK A c w' h1 h2 h3
theorem wpList_app (w : World) {ops : Array Oper} {rest : List Oper} {o : Oper} {a : Act} {Q : Exit → Act → World → Prop} (hgd : o.guard = none) (s x : Operand)
    (ho : o.op = .call { callee := .builtin .append, args := #[s, x], argTypes := #[24, 24] })
    (base : Nat) (v : Value) (l m : List Ot) (hs : a.eval s = v) (hown : w.ownsRow base 37 4 v l.length (outCells l)) (hbase : base ≤ w.heap.size) (hx : Sl w (a.eval x) m) (hlen : l.length + m.length ≤ 1000000)
    (h : ∀ A c w', w'.ownsRow base 37 4 (.slice A (l ++ m).length c) (l ++ m).length (outCells (l ++ m)) → w.grownBy w' v.ownBlock → ((Value.slice A (l ++ m).length c).ownBlock = v.ownBlock ∨ (Value.slice A (l ++ m).length c).ownBlock = some w.heap.size) → wpList Try.prog ops Q rest (a.put o.dst (.slice A (l ++ m).length c)) w') :
    wpList Try.prog ops Q (o :: rest) a w := by
  refine wpList_plain hgd fun K hK => ?_
  obtain ⟨A, c, w', hrun, h1, h2, h3⟩ := app_run w o.type base v _ l m hown hbase hx hlen
  unfold Oper.wp execOp
  simp only [ho, resolve, invoke, builtin, Sem.run_bind, Sem.run_pure, Result.andThen_ok, List.map_toArray, List.map_cons, List.map_nil, hs, hrun]
  exact hK _ _ (h A c w' h1 h2 h3)
end Go.Proofs.Ytbchepdaomhgeaa.MM
