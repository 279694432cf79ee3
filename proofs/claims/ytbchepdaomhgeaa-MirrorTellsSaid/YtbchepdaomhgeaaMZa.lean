import Derived.Test.YtbchepdaomhgeaaMZ
/- Layer 14: the document's Add. -/
namespace Go.Proofs.Ytbchepdaomhgeaa.MM
open Go.RowKit
set_option linter.unusedVariables false
set_option linter.unusedSimpArgs false
set_option maxRecDepth 100000 in
set_option maxHeartbeats 4000000 in
theorem refAddFull_calls (d : Dk) (A : Option Addr) (n c : Nat) (ya yb yc : Int) (w : World) (hf : n = 64 ∨ d.k = 4611686018427387904) :
    Calls Try.prog 25 #[d.val (.slice A n c), .agg #[I ya, I yb, I yc]] w fun e w' => e = .returned (.tuple #[d.val (.slice A n c), I 7]) ∧ Below w.heap.size w w' := by
  obtain ⟨gen, k, acked, peer, stage, seq⟩ := d
  dsimp only at hf
  have N : Scene w [(26, Dk.row ⟨gen, k, acked, peer, stage, seq⟩ (.slice A n c)), (33, #[I ya, I yb, I yc]), (26, Dk.row ⟨gen, k, acked, peer, stage, seq⟩ (.slice A n c))] (((w.alloc (.cells (Dk.row ⟨gen, k, acked, peer, stage, seq⟩ (.slice A n c)) 26)).alloc (.cells #[I ya, I yb, I yc] 33)).alloc (.cells (Dk.row ⟨gen, k, acked, peer, stage, seq⟩ (.slice A n c)) 26)) := (((Scene.none w).push (by simp) _ _).push (by simp) _ _).push (by simp) _ _
  have HN := Lib.hid N
  clear N
  by_cases h : n = 64
  · subst h
    clear hf
    go_enter Try.func25, Try.ntmps25
    go_wp2
    exact bodyPost_ret (results_cell_tmp' rfl rfl rfl HN.out.r2) rfl ⟨rfl, HN.out.be⟩
  · have h0 : ((n : Int) == 64) = false := by simp; omega
    have hk : k = 4611686018427387904 := by omega
    subst hk
    clear h hf
    go_enter Try.func25, Try.ntmps25
    go_wp2
    exact bodyPost_ret (results_cell_tmp' rfl rfl rfl HN.out.r2) rfl ⟨rfl, HN.out.be⟩
theorem Scene.app {w0 w w' : World} {L : List (TypeId × Array Value)} {r : Option Nat} (h : Scene w0 L w) (hg : w.grownBy w' r) (hr : ∀ g, r = some g → w0.heap.size + L.length ≤ g) : Scene w0 L w' :=
  ⟨h.rows.imp fun k t cs _ hk r' => r'.grown hg (fun e => by have := hr k e.symm; omega), ⟨hg.os.trans h.be.os, hg.tape.trans h.be.tape, hg.output.trans h.be.output, Nat.le_trans h.be.size hg.size, fun k hk => (hg.block k (Nat.lt_of_lt_of_le hk h.be.size) (fun e => by have := hr k e.symm; omega)).trans (h.be.block k hk)⟩⟩
theorem own0 (w : World) (base b : Nat) (hb : base ≤ w.heap.size) (e : b = w.heap.size) : (w.alloc (.cells #[] 37)).ownsRow base 37 4 (.slice (some ⟨b, 0, none⟩) 0 0) 0 (outCells []) := by
  subst e
  exact World.ownsRow_lit w #[] 0 hb (by simp [maxLen]) rfl
theorem _root_.Go.World.ownsRow.drew' {w : World} {base : Nat} {e : TypeId} {size n : Nat} {v : Value} {xs : List Value} (h : w.ownsRow base e size v n xs) : w.drew.ownsRow base e size v n xs := h
theorem sl_one {w : World} {b : Nat} {x y z u : Int} {t : TypeId} (h : Row w b t #[I x, I y, I z, I u]) (c : Nat) (hc : 1 ≤ c) : Sl w (.slice (some ⟨b, 0, none⟩) 1 c) [⟨x, y, z, u⟩] :=
  ⟨_, c, rfl, hc, (fun e => by cases e), fun _ => ⟨b, 0, rfl, h.lt, fun i o ho => by
    cases i with
    | zero => simp at ho; subst ho; exact ⟨h.cell 0, h.cell 1, h.cell 2, h.cell 3⟩
    | succ i => simp at ho⟩⟩
set_option maxRecDepth 100000 in
set_option maxHeartbeats 4000000 in
theorem refAdd_calls (d : Dk) (s : Value) (l : List Ot) (ya yb yc : Int) (w : World) (hs : Sl w s l) (hn : l.length < 64) (hk : d.k < 4611686018427387904) (hk0 : 0 ≤ d.k) :
    Calls Try.prog 25 #[d.val s, .agg #[I ya, I yb, I yc]] w fun e w' => ∃ s', e = .returned (.tuple #[{ d with k := d.k + 1 }.val s', I 0]) ∧ Sl w' s' (l ++ [⟨d.k + 1, ya, yb, yc⟩]) ∧ Below w.heap.size w w' := by
  obtain ⟨gen, k, acked, peer, stage, seq⟩ := d
  obtain ⟨A, c, rfl, hc, hA, hw⟩ := id hs
  dsimp only at hk hk0
  have h0 : ((l.length : Int) == 64) = false := by simp; omega
  have h1 : (k == 4611686018427387904) = false := by simp; omega
  have hw64 : IntKind.i64.wrap (k + 1) = k + 1 := by simp [IntKind.wrap, IntKind.bits, IntKind.signed]; omega
  have HS := Lib.hid hs
  have HN := Lib.hid hn
  clear hw hA hn hk hk0 hc hs
  go_enter Try.func25, Try.ntmps25
  go_wp2
  have M : Hid (Scene w [(26, Dk.row ⟨gen, k, acked, peer, stage, seq⟩ (.slice A l.length c)), (33, #[I ya, I yb, I yc]), (26, z7), (26, Dk.row ⟨gen, k + 1, acked, peer, stage, seq⟩ (.slice A l.length c))] ((((w.alloc (.cells (Dk.row ⟨gen, k, acked, peer, stage, seq⟩ (.slice A l.length c)) 26)).alloc (.cells #[I ya, I yb, I yc] 33)).alloc (.cells z7 26)).alloc (.cells (Dk.row ⟨gen, k + 1, acked, peer, stage, seq⟩ (.slice A l.length c)) 26))) :=
    Lib.hid (((((Scene.none w).push (by simp) _ _).push (by simp) _ _).push (by simp) _ _).push (by simp) _ _)
  have hsz : ((((w.alloc (.cells (Dk.row ⟨gen, k, acked, peer, stage, seq⟩ (.slice A l.length c)) 26)).alloc (.cells #[I ya, I yb, I yc] 33)).alloc (.cells z7 26)).alloc (.cells (Dk.row ⟨gen, k + 1, acked, peer, stage, seq⟩ (.slice A l.length c)) 26)).heap.size = w.heap.size + 4 := by simp
  generalize ((((w.alloc (.cells (Dk.row ⟨gen, k, acked, peer, stage, seq⟩ (.slice A l.length c)) 26)).alloc (.cells #[I ya, I yb, I yc] 33)).alloc (.cells z7 26)).alloc (.cells (Dk.row ⟨gen, k + 1, acked, peer, stage, seq⟩ (.slice A l.length c)) 26)) = wa at *
  have HZ := Lib.hid hsz
  clear hsz
  have mk : ∀ w', Row w' w.heap.size 26 (Dk.row ⟨gen, k, acked, peer, stage, seq⟩ (.slice A l.length c)) → Row w' (w.heap.size + 1) 33 #[I ya, I yb, I yc] → (∀ o, w'.cell? ⟨w.heap.size, o, none⟩ = (Dk.row ⟨gen, k, acked, peer, stage, seq⟩ (.slice A l.length c))[o]?) ∧ (∀ o, w'.cell? ⟨w.heap.size + 1, o, none⟩ = #[I ya, I yb, I yc][o]?) := fun w' h h' => ⟨h.cell, h'.cell⟩
  have MK := Lib.hid mk
  clear mk
  go_region_held3 (fun w' => (∀ o, w'.cell? ⟨w.heap.size, o, none⟩ = (Dk.row ⟨gen, k, acked, peer, stage, seq⟩ (.slice A l.length c))[o]?) ∧ (∀ o, w'.cell? ⟨w.heap.size + 1, o, none⟩ = #[I ya, I yb, I yc][o]?))
    (first | with_reducible exact MK.out _ M4.out.r0 M4.out.r1 | with_reducible exact MK.out _ M1.out.r0 M1.out.r1 | with_reducible exact MK.out _ (M1.out.alloc _).r0 (M1.out.alloc _).r1 | with_reducible exact MK.out _ M.out.drew.r0 M.out.drew.r1 | with_reducible exact MK.out _ (M.out.alloc _).drew.r0 (M.out.alloc _).drew.r1 | with_reducible exact MK.out _ ((M.out.alloc _).alloc _).drew.r0 ((M.out.alloc _).alloc _).drew.r1 | exact MK.out _ (M4.out.r0.far (p := ⟨w.heap.size + 1 + 1 + 1, 6, none⟩) (by dsimp only; omega) _) (M4.out.r1.far (p := ⟨w.heap.size + 1 + 1 + 1, 6, none⟩) (by dsimp only; omega) _))
    (first
      | (refine step_app _ rfl (.tmp 22) (.tmp 24) rfl (w.heap.size + 4) _ [] l rfl ?own ?base ?sl ?len ?_
         case own =>
           first | exact (own0 wa _ _ (by have := HZ.out; omega) rfl).drew' | exact ((own0 wa _ _ (by have := HZ.out; omega) rfl).alloc _).drew' | exact (own0 (World.alloc wa _) _ _ (by have := HZ.out; simp; omega) (by simp)).drew'
         case base => (have := HZ.out; simp; omega)
         case sl => (first | exact HS.out.below (M.out.alloc _).drew.be | exact HS.out.below ((M.out.alloc _).alloc _).drew.be)
         case len => (have := HN.out; simp; omega)
         intro A1 c1 w1 ho hg hat
         rw [List.nil_append] at ho hat ⊢
         have HO := Lib.hid ho
         have M1 := Lib.hid (Scene.app (by first | exact (M.out.alloc _).drew | exact ((M.out.alloc _).alloc _).drew) hg (fun g h => by have := HZ.out; simp [Act.eval, Act.put, Value.ownBlock] at h; simp; omega))
         have hsz1 : wa.heap.size < w1.heap.size := by have := hg.size; simp at this; omega
         have HZ1 := Lib.hid hsz1
         first
           | (have RB := Lib.hid (((Row.new wa 37 #[I (k + 1), I ya, I yb, I yc]).alloc _).drew.grown hg (by simp [Act.eval, Act.put, Value.ownBlock])))
           | (have RB := Lib.hid ((show Row ((wa.alloc (.cells #[] 37)).alloc (.cells #[I (k + 1), I ya, I yb, I yc] 37)).drew (wa.heap.size + 1) 37 #[I (k + 1), I ya, I yb, I yc] from by have := (Row.new (wa.alloc (.cells #[] 37)) 37 #[I (k + 1), I ya, I yb, I yc]).drew; simpa using this).grown hg (by simp [Act.eval, Act.put, Value.ownBlock])))
           | skip
         clear ho hg hat hsz1)
      | (refine step_app _ rfl (.tmp 25) (.tmp 31) rfl (w.heap.size + 4) _ l [⟨k + 1, ya, yb, yc⟩] rfl ?own ?base ?sl ?len ?_
         case own => (first | with_reducible exact HO.out | with_reducible exact HO.out.alloc _ | exact HO.out | exact HO.out.alloc _)
         case base => (have := HZ.out; have := HZ1.out; simp; omega)
         case sl => (first | exact sl_one RB.out 1 (by omega) | exact sl_one (Row.new _ _ _) 1 (by omega))
         case len => (have := HN.out; simp; omega)
         intro A2 c2 w2 ho hg hat
         have HO2 := Lib.hid ho
         have M4 := Lib.hid (Scene.app (by first | exact M1.out | exact M1.out.alloc _) hg (fun g h => by have := (HO.out.lt g h).1; simp; omega))
         have q3 := M4.out.r3.cell
         have g3 := M4.out.r3.free
         clear ho hg hat))
  all_goals
    have q2 := M4.out.r2.cell
    have g2 := M4.out.r2.free
    go_wp2
  all_goals
    have hl : (l ++ [(⟨k + 1, ya, yb, yc⟩ : Ot)]).length = l.length + 1 := by simp
    have HO3 : ∀ g, (Value.slice A2 (l.length + 1) c2).ownBlock = some g → w.heap.size + 4 ≤ g := fun g hg => (HO2.out.lt g (by rw [hl]; exact hg)).1
    have HS2 : Sl w2 (.slice A2 (l.length + 1) c2) (l ++ [⟨k + 1, ya, yb, yc⟩]) := by have := Sl.of_own HO2.out rfl; rwa [hl] at this
    have R := (M4.out.r2.far (p := ⟨w.heap.size + 1 + 1 + 1, 6, none⟩) (by dsimp only; omega) (.slice A2 (l.length + 1) c2)).fill7 (I gen) (I (k + 1)) (I acked) (I peer) (I stage) (I seq) (.slice A2 (l.length + 1) c2)
    have HB := Below.fill7 (C := w.heap.size + 1 + 1) (M4.out.be.setCell (p := ⟨w.heap.size + 1 + 1 + 1, 6, none⟩) (by dsimp only; omega) (.slice A2 (l.length + 1) c2)) (by omega) (I gen) (I (k + 1)) (I acked) (I peer) (I stage) (I seq) (.slice A2 (l.length + 1) c2)
    have HS3 := (HS2.setCell (p := ⟨w.heap.size + 1 + 1 + 1, 6, none⟩) (fun g h => by have := HO3 g h; dsimp only; omega) (.slice A2 (l.length + 1) c2)).fill7 (C := w.heap.size + 1 + 1) (fun g h => by have := HO3 g h; omega) (I gen) (I (k + 1)) (I acked) (I peer) (I stage) (I seq) (.slice A2 (l.length + 1) c2)
    exact bodyPost_ret (results_cell_tmp' rfl rfl rfl R) rfl ⟨_, rfl, HS3, HB⟩
end Go.Proofs.Ytbchepdaomhgeaa.MM
