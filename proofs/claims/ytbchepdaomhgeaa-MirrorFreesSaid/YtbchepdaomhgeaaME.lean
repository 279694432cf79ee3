import Derived.Test.YtbchepdaomhgeaaMD
/- Layer 14: an entry more. -/
namespace Go.Proofs.Ytbchepdaomhgeaa.MM
open Go.RowKit
set_option linter.unusedVariables false
set_option linter.unusedSimpArgs false
abbrev z7 : Array Value := #[I 0, I 0, I 0, I 0, I 0, I 0, .slice none 0 0]
def full (d : Dk) (l : List Ot) : Bool := decide (l.length ≥ 64) || decide (d.k ≥ 4611686018427387904)
theorem results_cell_tmp' {w : World} {B : Nat} {a b c d e f g x : Value} {fn : Func} {k j : Nat} {tmps : Array Value} (h : fn.results = #[.cell k 26, .tmp j]) (hk : tmps.getD k undef = .pointer (some ⟨B, 0, none⟩)) (hj : tmps.getD j undef = x) (R : Row w B 26 #[a, b, c, d, e, f, g]) :
    (results fn tmps).run Try.prog w = .ok (.tuple #[.agg #[a, b, c, d, e, f, g], x]) w := by subst hj; exact results_cell_tmp h hk R
set_option maxRecDepth 100000 in
set_option maxHeartbeats 4000000 in
theorem addFull_calls (d : Dk) (A : Option Addr) (n c : Nat) (ya yb yc : Int) (w : World) (hn : n ≤ 64) (hf : n ≥ 64 ∨ d.k ≥ 4611686018427387904) :
    Calls Try.prog 12 #[d.val (.slice A n c), .agg #[I ya, I yb, I yc]] w fun e w' => e = .returned (.tuple #[d.val (.slice A n c), I 7]) ∧ Below w.heap.size w w' := by
  by_cases h : n ≥ 64
  · have h0 : decide ((n : Int) ≥ 64) = true := decide_eq_true (by omega)
    clear h hf hn
    go_enter Try.func12, Try.ntmps12
    go_wp2
    have N : Scene w [(26, d.row (.slice A n c)), (33, #[I ya, I yb, I yc]), (26, d.row (.slice A n c))] (((w.alloc (.cells (d.row (.slice A n c)) 26)).alloc (.cells #[I ya, I yb, I yc] 33)).alloc (.cells (d.row (.slice A n c)) 26)) := (((Scene.none w).push (by simp) _ _).push (by simp) _ _).push (by simp) _ _
    exact bodyPost_ret (results_cell_tmp' rfl rfl rfl N.r2) rfl ⟨rfl, N.be⟩
  · have h0 : decide ((n : Int) ≥ 64) = false := decide_eq_false (by omega)
    have h1 : decide (d.k ≥ 4611686018427387904) = true := decide_eq_true (by omega)
    clear h hf hn
    go_enter Try.func12, Try.ntmps12
    go_wp2
    have N : Scene w [(26, d.row (.slice A n c)), (33, #[I ya, I yb, I yc]), (26, d.row (.slice A n c))] (((w.alloc (.cells (d.row (.slice A n c)) 26)).alloc (.cells #[I ya, I yb, I yc] 33)).alloc (.cells (d.row (.slice A n c)) 26)) := (((Scene.none w).push (by simp) _ _).push (by simp) _ _).push (by simp) _ _
    exact bodyPost_ret (results_cell_tmp' rfl rfl rfl N.r2) rfl ⟨rfl, N.be⟩
theorem outCells_append (l r : List Ot) : outCells (l ++ r) = outCells l ++ outCells r := by simp [outCells]
theorem below_of_grown {w w' : World} (h : w.grownBy w' none) : Below w.heap.size w w' := ⟨h.os, h.tape, h.output, h.size, fun k hk => h.block k hk (by simp)⟩
theorem own_ge {w : World} {base : Nat} {e : TypeId} {size n : Nat} {v : Value} {xs : List Value} (h : w.ownsRow base e size v n xs) : ∀ g, v.ownBlock = some g → base ≤ g := by
  intro g hg
  rcases h.2 with ⟨rfl, _⟩ | ⟨g', cap, cur, rfl, hb, _⟩
  · simp [Value.ownBlock] at hg
  · simp [Value.ownBlock] at hg; omega
theorem step_append_grows {P : Program} (w : World) {ops : Array Oper} {o : Oper} {a : Act} {K : Act → World → Prop} {Q : Exit → Act → World → Prop} {E : Prop}
    (hg : o.guard = none) (s x : Operand) (t : TypeId) (hop : o.op = Op.call { callee := Callee.builtin Builtin.append, args := #[s, x], argTypes := #[t, t] })
    (e : TypeId) (i : TypeInfo) (z : Value) (size bytes : Nat) (h1 : P.underlying t = some (.slice e)) (h2 : P.info? e = some i) (h3 : i.zero = some z) (h4 : i.size = size) (h5 : i.bytes = bytes) (h6 : z.cells.size = size) (h7 : 0 < size)
    (ao : Option Addr) (n cap : Nat) (olds : List Value) (hs : a.eval s = .slice ao n cap) (hnone : ao = none → n = 0 ∧ cap = 0) (hlo : olds.length = n * size) (holds : ∀ b, ao = some b → ∀ j u, olds[j]? = some u → w.cell? (b.add j) = some u)
    (ad : Addr) (m c : Nat) (news : List Value) (hx : a.eval x = .slice (some ad) m c) (hn : news.length = m * size) (hc : ∀ j u, news[j]? = some u → w.cell? (ad.add j) = some u) (h1c : ∀ u ∈ news, u.oneCell' = true)
    (hfull : cap < n + m) (b1 : n + m ≤ maxLen) (b2 : (n + m) * bytes ≤ 140737488355328)
    (hK : ∀ v' w', w'.ownsRow w.heap.size e size v' (n + m) (olds ++ news) → w.grownBy w' none → K (a.put o.dst v') w') :
    if Region.wanted o (yielded ops a.tmps) = true then Oper.wp P o a w K Q else E := by
  have hw : Region.wanted o (yielded ops a.tmps) = true := by simp [Region.wanted, hg]
  rw [if_pos hw]
  cases ao with
  | some b =>
    obtain ⟨v', w', hrun, r1, r2⟩ := run_append_arg_grows (P := P) w t o.type e i z size bytes h1 h2 h3 h4 h5 h6 h7 b n cap olds hlo (holds b rfl) ad m c news hn hc hfull b1 b2
    unfold Oper.wp
    simp [execOp, hop, resolve, invoke, builtin, hs, hx, hrun, Result.andThen]
    exact hK v' w' r1 r2
  | none =>
    obtain ⟨rfl, rfl⟩ := hnone rfl
    obtain rfl : olds = [] := List.eq_nil_of_length_eq_zero (by simpa using hlo)
    obtain ⟨v', w', hrun, r1, r2, _⟩ := run_append_own (P := P) w w.heap.size t o.type e i z size bytes h1 h2 h3 h4 h5 h6 h7 (.slice none 0 0) 0 [] (World.ownsRow_nil w _ e size) ad m c news hn hc h1c b1 b2 (Nat.le_refl _)
    unfold Oper.wp
    simp [execOp, hop, resolve, invoke, builtin, hs, hx, hrun, Result.andThen]
    exact hK v' w' r1 r2
set_option maxRecDepth 100000 in
set_option maxHeartbeats 4000000 in
theorem add_calls (d : Dk) (s : Value) (l : List Ot) (ya yb yc : Int) (w : World) (hs : Sl w s l) (hn : l.length < 64) (hk : d.k < 4611686018427387904) (hk0 : 0 ≤ d.k) :
    Calls Try.prog 12 #[d.val s, .agg #[I ya, I yb, I yc]] w fun e w' => ∃ s', e = .returned (.tuple #[{ d with k := d.k + 1 }.val s', I 0]) ∧ Sl w' s' (l ++ [⟨d.k + 1, ya, yb, yc⟩]) ∧ (∀ g, s'.ownBlock = some g → w.heap.size ≤ g) ∧ Below w.heap.size w w' := by
  obtain ⟨gen, k, acked, peer, stage, seq⟩ := d
  obtain ⟨A, c, rfl, hc, hA, hw⟩ := hs
  dsimp only at hk hk0
  have h0 : decide ((l.length : Int) ≥ 64) = false := decide_eq_false (by omega)
  have h1 : decide (k ≥ 4611686018427387904) = false := decide_eq_false (by omega)
  have hw64 : IntKind.i64.wrap (k + 1) = k + 1 := by simp [IntKind.wrap, IntKind.bits, IntKind.signed]; omega
  have HW := Lib.hid hw
  have HA := Lib.hid hA
  have HN := Lib.hid hn
  have hc0 : (l.length : Int) ≤ c := by omega
  clear hw hA hn hk hk0 hc
  obtain ⟨i0, hi0, hz0, hz1, hz2⟩ := info_parts out_info
  go_enter Try.func12, Try.ntmps12
  go_wp2
  have M : Hid (Scene w [(26, Dk.row ⟨gen, k + 1, acked, peer, stage, seq⟩ (.slice A l.length c)), (33, #[I ya, I yb, I yc]), (26, z7)] (((w.alloc (.cells (Dk.row ⟨gen, k + 1, acked, peer, stage, seq⟩ (.slice A l.length c)) 26)).alloc (.cells #[I ya, I yb, I yc] 33)).alloc (.cells z7 26)).drew) :=
    Lib.hid ((((Scene.none w).push (by simp) _ _).push (by simp) _ _).push (by simp) _ _).drew
  generalize hwa : (((w.alloc (.cells (Dk.row ⟨gen, k + 1, acked, peer, stage, seq⟩ (.slice A l.length c)) 26)).alloc (.cells #[I ya, I yb, I yc] 33)).alloc (.cells z7 26)) = wa at *
  have hsz : wa.heap.size = w.heap.size + 3 := by subst hwa; simp
  have m1 : wa.drew.cell? ⟨w.heap.size, 1, none⟩ = some (I (k + 1)) := M.out.r0.cell 1
  have m2 : ∀ o, wa.drew.cell? ⟨w.heap.size + 1, o, none⟩ = #[I ya, I yb, I yc][o]? := M.out.r1.cell
  have m6 : wa.drew.cell? ⟨w.heap.size, 6, none⟩ = some (.slice A l.length c) := M.out.r0.cell 6
  have lw : w.heap.size < wa.heap.size := by omega
  have lw1 : w.heap.size + 1 < wa.heap.size := by omega
  have M3 : Hid (Scene w [(26, Dk.row ⟨gen, k + 1, acked, peer, stage, seq⟩ (.slice A l.length c)), (33, #[I ya, I yb, I yc]), (26, z7)] (wa.alloc (.cells #[I (k + 1), I ya, I yb, I yc] 37)).drew) := Lib.hid (M.out.alloc (.cells #[I (k + 1), I ya, I yb, I yc] 37))
  have n1 : (wa.alloc (.cells #[I (k + 1), I ya, I yb, I yc] 37)).drew.cell? ⟨w.heap.size, 1, none⟩ = some (I (k + 1)) := M3.out.r0.cell 1
  have n6 : (wa.alloc (.cells #[I (k + 1), I ya, I yb, I yc] 37)).drew.cell? ⟨w.heap.size, 6, none⟩ = some (.slice A l.length c) := M3.out.r0.cell 6
  have HWA : Hid (Wts (wa.alloc (.cells #[I (k + 1), I ya, I yb, I yc] 37)).drew (wa.alloc (.cells #[I (k + 1), I ya, I yb, I yc] 37)).drew.heap.size A l) := Lib.hid ((HW.out.below M3.out.be).more M3.out.be.size)
  have HNW : Hid (Wts (wa.alloc (.cells #[I (k + 1), I ya, I yb, I yc] 37)).drew (wa.alloc (.cells #[I (k + 1), I ya, I yb, I yc] 37)).drew.heap.size (some ⟨wa.heap.size, 0, none⟩) [⟨k + 1, ya, yb, yc⟩]) := Lib.hid (fun _ => ⟨wa.heap.size, 0, rfl, by simp, fun i o ho => by
    have R := (Row.new wa 37 #[I (k + 1), I ya, I yb, I yc]).drew
    cases i with
    | zero =>
      simp at ho
      subst ho
      exact ⟨R.cell 0, R.cell 1, R.cell 2, R.cell 3⟩
    | succ i => simp at ho⟩)
  clear hwa
  go_region_law (
                 refine step_append_grows _ rfl (.tmp 26) (.tmp 31) 24 rfl 37 i0 _ 4 32 Try.underlying24 hi0 hz0 hz1 hz2 rfl (by omega) A l.length l.length (outCells l) (by simp [Act.eval, Act.put]) (fun e => by have := HA.out e; omega) (outCells_length l) (fun b e => by subst e; exact HWA.out.flat) ⟨wa.heap.size, 0, none⟩ 1 1 (outCells [⟨k + 1, ya, yb, yc⟩]) (by simp [Act.eval, Act.put]) rfl HNW.out.flat (outCells_one _) (by omega) (by have := HN.out; simp only [maxLen]; omega) (by have := HN.out; omega) ?_
                 intro v' w' hown hgrow
                 have HO := Lib.hid (own_ge hown)
                 have hsl := Sl.of_own (l := l ++ [⟨k + 1, ya, yb, yc⟩]) (by rw [outCells_append]; exact hown) (by simp)
                 have HSL := Lib.hid hsl
                 obtain ⟨A', c', rfl, hc', hA', hw'⟩ := hsl
                 have M4 := Lib.hid (M3.out.below (below_of_grown hgrow))
                 clear hown hgrow hc' hA' hw'
                 have q0 := M4.out.r0.cell
                 have g0 := M4.out.r0.free
                 have q2 := M4.out.r2.cell
                 have g2 := M4.out.r2.free)
  all_goals go_wp2
  all_goals
    have hl : (l ++ [(⟨k + 1, ya, yb, yc⟩ : Ot)]).length = l.length + 1 := by simp
    have HO2 : ∀ g, (Value.slice A' (l.length + 1) c').ownBlock = some g → w.heap.size + 3 ≤ g := fun g hg => by have := HO.out g (by rw [hl]; exact hg); simp at this; omega
    have HS2 : Sl w' (.slice A' (l.length + 1) c') (l ++ [⟨k + 1, ya, yb, yc⟩]) := by have := HSL.out; rwa [hl] at this
    have R := (M4.out.r2.far (p := ⟨w.heap.size, 6, none⟩) (by simp; omega) (.slice A' (l.length + 1) c')).fill7 (I gen) (I (k + 1)) (I acked) (I peer) (I stage) (I seq) (.slice A' (l.length + 1) c')
    have HB := Below.fill7 (C := w.heap.size + 1 + 1) (M4.out.be.setCell (p := ⟨w.heap.size, 6, none⟩) (Nat.le_refl _) (.slice A' (l.length + 1) c')) (by omega) (I gen) (I (k + 1)) (I acked) (I peer) (I stage) (I seq) (.slice A' (l.length + 1) c')
    have HS3 := (HS2.setCell (p := ⟨w.heap.size, 6, none⟩) (fun g h => by have := HO2 g h; simp; omega) (.slice A' (l.length + 1) c')).fill7 (C := w.heap.size + 1 + 1) (fun g h => by have := HO2 g h; omega) (I gen) (I (k + 1)) (I acked) (I peer) (I stage) (I seq) (.slice A' (l.length + 1) c')
    exact bodyPost_ret (results_cell_tmp' rfl rfl rfl R) rfl ⟨_, rfl, HS3, fun g hg => by have := HO2 g hg; omega, HB⟩
end Go.Proofs.Ytbchepdaomhgeaa.MM
