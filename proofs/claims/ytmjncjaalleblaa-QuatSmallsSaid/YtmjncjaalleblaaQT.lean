import Derived.Test.YtmjncjaalleblaaQA
import Derived.Deep.WholeRow
/- Layer 4: the table of terms. -/
namespace Go.Proofs.Ytmjncjaalleblaa.PQ
open Go.RowKit

/-- operations that only yield values, carried out one behind the other -/
def runOps (P : Program) : List Oper → Act → World → Result Act
  | [], a, w => .ok a w
  | o :: rest, a, w => match (execOp a.eval o).run P w with
    | .ok (.value v) w' => runOps P rest (a.put o.dst v) w'
    | .ok .skip w' => runOps P rest (a.put o.dst undef) w'
    | .ok _ w' => .halt (.stuck "no value") w'
    | .halt h w' => .halt h w'
theorem wpList_runOps {P : Program} {ops : Array Oper} {Q : Exit → Act → World → Prop} {rest : List Oper} : ∀ (l : List Oper) (a a' : Act) (w w' : World), (l.all fun o => o.guard.isNone) = true → runOps P l a w = .ok a' w' →
    wpList P ops Q rest a' w' → wpList P ops Q (l ++ rest) a w
  | [], a, a', w, w', _, h, hq => by
    simp only [runOps] at h
    injection h with h1 h2
    subst h1 h2
    exact hq
  | o :: l, a, a', w, w', hg, h, hq => by
    simp only [List.all_cons, Bool.and_eq_true] at hg
    have hgo : o.guard = none := by simpa using hg.1
    refine wpList_plain hgo fun K hK => ?_
    unfold runOps at h
    unfold Oper.wp
    generalize (execOp a.eval o).run P w = r at *
    cases r with
    | halt x w1 => cases h
    | ok n w1 =>
      cases n <;> try cases h
      · exact hK _ _ (wpList_runOps l _ _ _ _ hg.2 h hq)
      · exact hK _ _ (wpList_runOps l _ _ _ _ hg.2 h hq)

def termsV : Array Value := #[.int .i64 0, .int .i64 0, .int .i64 1, .int .i64 1, .int .i64 1, .int .i64 (-1), .int .i64 2, .int .i64 2, .int .i64 (-1), .int .i64 3, .int .i64 3, .int .i64 (-1),
  .int .i64 0, .int .i64 1, .int .i64 1, .int .i64 1, .int .i64 0, .int .i64 1, .int .i64 2, .int .i64 3, .int .i64 1, .int .i64 3, .int .i64 2, .int .i64 (-1),
  .int .i64 0, .int .i64 2, .int .i64 1, .int .i64 1, .int .i64 3, .int .i64 (-1), .int .i64 2, .int .i64 0, .int .i64 1, .int .i64 3, .int .i64 1, .int .i64 1,
  .int .i64 0, .int .i64 3, .int .i64 1, .int .i64 1, .int .i64 2, .int .i64 1, .int .i64 2, .int .i64 1, .int .i64 (-1), .int .i64 3, .int .i64 0, .int .i64 1]
def termsA (w : World) : Act := { tmps := #[.pointer (some ⟨w.heap.size, 0, none⟩)] ++ Array.replicate 21 undef, defers := [] }
/-- what a run leaves, its world aside -/
def got : Result Act → Act
  | .ok a _ => a
  | .halt _ _ => { tmps := #[], defers := [] }
theorem alloc53 (w : World) : (Instr.alloc 53 true (.tuple #[])).run Try.prog w = .ok (.pointer (some ⟨w.heap.size, 0, none⟩)) (w.alloc (.cells (Array.replicate 48 (.int .i64 0)) 53)) := by kernel_rfl
theorem wpList_runGot {P : Program} {ops : Array Oper} {Q : Exit → Act → World → Prop} (n : Nat) {l : List Oper} {a : Act} {w : World} (hg : ((l.take n).all fun o => o.guard.isNone) = true)
    (h : runOps P (l.take n) a w = .ok (got (runOps P (l.take n) a default)) w) (hq : wpList P ops Q (l.drop n) (got (runOps P (l.take n) a default)) w) : wpList P ops Q l a w := by
  have := wpList_runOps (rest := l.drop n) (l.take n) _ _ _ _ hg h hq
  rwa [List.take_append_drop] at this
theorem wpList_store_new {P : Program} {ops : Array Oper} {Q : Exit → Act → World → Prop} {rest : List Oper} {o : Oper} {a : Act} {w : World} (hg : o.guard = none) (t : TypeId) (x y : Operand) (c c' : Array Value) (ho : o.op = .store t x y)
    (hx : a.eval x = .pointer (some ⟨w.heap.size, 0, none⟩)) (hy : a.eval y = .agg c') (hi : (P.info? t).map (·.size) = some c'.size) (hs : c.size = c'.size) (h1 : c'.all (·.oneCell') = true)
    (h : wpList P ops Q rest (a.put o.dst undef) (w.alloc (.cells c' t))) : wpList P ops Q (o :: rest) a (w.alloc (.cells c t)) := by
  refine wpList_plain hg fun K hK => ?_
  unfold Oper.wp execOp
  simp only [ho, hx, hy, Sem.run_bind, run_storeAt_new w t c c' hi hs h1, Result.andThen, Sem.run_pure]
  exact hK _ _ h
set_option maxRecDepth 100000 in
theorem terms_calls (w : World) : Calls Try.prog 27 #[] w fun e w' => e = .returned (.agg termsV) ∧ Below w.heap.size w w' := by
  refine calls_of_wp Try.func27 rfl ?_
  refine wp_seq ?_
  refine wp_region_lit ?_
  refine wpList_runOps (rest := []) [_] _ { tmps := #[.pointer (some ⟨w.heap.size, 0, none⟩)] ++ Array.replicate 21 undef, defers := [] } _ (w.alloc (.cells (Array.replicate 48 (.int .i64 0)) 53)) rfl (by kernel_rfl) ?_
  refine wpList_nil ?_
  simp only [Exit.then]
  refine wp_seq ?_
  refine wp_region_lit ?_
  refine wpList_runGot 21 (by kernel_rfl) (by kernel_rfl) ?_
  refine wpList_store_new rfl 53 (.tmp 0) (.tmp 21) _ termsV rfl (by kernel_rfl) (by kernel_rfl) (by kernel_rfl) (by kernel_rfl) (by kernel_rfl) ?_
  refine wpList_nil ?_
  simp only [Exit.then]
  refine wp_ret ?_
  refine bodyPost_ret (v := .agg termsV) (results_cell_row (p := 0) (ty := 53) rfl _ _ w.heap.size 53 termsV (0, 0) _ (by kernel_rfl) (heap_alloc_last _ _) Try.underlying53 rfl (by kernel_rfl)) (by kernel_rfl) ⟨rfl, (Below.refl _ _).alloc (Nat.le_refl _) _⟩
end Go.Proofs.Ytmjncjaalleblaa.PQ
