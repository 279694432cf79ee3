import Derived.Test.YtninmcmajbfccaaZ6
import Derived.Test.YtninmcmajbfccaaZ7
import Derived.Test.YtninmcmajbfccaaZ2
import Derived.Below
import Derived.Deep.Draws
import Derived.Deep.AppendLies
import Derived.Maps.AppendAt
import Derived.OwnWalk
import Derived.ArgAppend
import Derived.Laws.OwnMore
import Derived.Deep.OwnRows
import Derived.Tactics
import Derived.Laws.Slices
import Derived.WalkKit
import Derived.KernelRfl
import Derived.RowKit3
import Derived.Deep.LoopGhost
import Derived.Deep.QuietTactic
import Derived.WideLaws
import Derived.Deep.RegionHeld3
import Derived.Deep.RegionLaw
import Derived.Laws.Rows
import Derived.RowKit
import Derived.LoopTactic
import Derived.Lib.Hide
import Derived.Laws.AppendOwn
import Derived.IntWalk
import Derived.Test.YtninmcmajbfccaaZ5
import Derived.Test.YtninmcmajbfccaaZ3
import Derived.Test.YtninmcmajbfccaaZ4
/- Joined by a program of this session's own (wip/pack.py) out of its texts; the parts PQ, PR, PS were laid by its own program (wip/print-patch.py over the kit's print) out of the translation; Lean checks all. -/
/- Layers 3 and 5: words. -/
namespace Go.Proofs.Ytninmcmajbfccaa.KK
open Go.RowKit Go.Proofs.YtninmcmajbfccaaW.PrintWords Go.Proofs.YtninmcmajbfccaaW.PrintLast Go.Proofs.YtninmcmajbfccaaW.PrintMore
set_option linter.unusedVariables false
set_option linter.unusedSimpArgs false
abbrev I (n : Int) : Value := .int .i64 n
/-- block B is just these cells -/
def Row (w : World) (B : Nat) (t : TypeId) (cs : Array Value) : Prop := w.heap[B]? = some (.cells cs t (0, 0))
section
variable {w w' : World} {B : Nat} {t : TypeId} {cs : Array Value}
theorem Row.cell (h : Row w B t cs) (i : Nat) : w.cell? ⟨B, i, none⟩ = cs[i]? := by unfold Row at h; simp [World.cell?, h]
theorem Row.free (h : Row w B t cs) (i : Nat) : w.frozen? ⟨B, i, none⟩ = false := by unfold Row at h; simp [World.frozen?, h]
theorem Row.lt (h : Row w B t cs) : B < w.heap.size := by
  rcases Nat.lt_or_ge B w.heap.size with hl | hl
  · exact hl
  · unfold Row at h; rw [Array.getElem?_eq_none hl] at h; cases h
theorem Row.new (w : World) (t : TypeId) (cs : Array Value) : Row (w.alloc (.cells cs t)) w.heap.size t cs := heap_alloc_new w _
theorem Row.alloc (h : Row w B t cs) (o : Obj) : Row (w.alloc o) B t cs := (Below.heap_alloc w o B h.lt).trans h
theorem Row.drew (h : Row w B t cs) : Row w.drew B t cs := h
theorem Row.below {n : Nat} (h : Row w B t cs) (hb : Below n w w') (hn : B < n) : Row w' B t cs := (hb.block B hn).trans h
theorem Row.set (h : Row w B t cs) (i : Nat) (u : Value) : Row (w.setCell ⟨B, i, none⟩ u) B t (cs.setIfInBounds i u) := by
  unfold Row at h ⊢
  simp [World.setCell, Array.getElem?_modify, h]
theorem Row.far (h : Row w B t cs) {p : Addr} (hp : B ≠ p.block) (u : Value) : Row (w.setCell p u) B t cs := (Below.heap_setCell w p u B hp).trans h
theorem Row.grown {r : Option Nat} (h : Row w B t cs) (hg : w.grownBy w' r) (hr : some B ≠ r) : Row w' B t cs := (hg.block B h.lt hr).trans h
theorem Row.kept (hb : Below (w.alloc (.cells cs t)).heap.size (w.alloc (.cells cs t)) w') : Row w' w.heap.size t cs := (Row.new w t cs).below hb (Row.new w t cs).lt
end
theorem grown_of_below {w w1 : World} (hb : Below w.heap.size w w1) (r : Option Nat) : w.grownBy w1 r := ⟨hb.os, hb.tape, hb.output, hb.size, fun k hk _ => hb.block k hk⟩
theorem grown_trans {w w1 w2 : World} {r : Option Nat} (h : w.grownBy w1 r) (h' : w1.grownBy w2 r) : w.grownBy w2 r :=
  ⟨h'.os.trans h.os, h'.tape.trans h.tape, h'.output.trans h.output, Nat.le_trans h.size h'.size, fun k hk hr => (h'.block k (Nat.lt_of_lt_of_le hk h.size) hr).trans (h.block k hk hr)⟩

theorem cell_lt {w : World} {a : Addr} {v : Value} (h : w.cell? a = some v) : a.block < w.heap.size := by
  rcases Nat.lt_or_ge a.block w.heap.size with hl | hl
  · exact hl
  · simp [World.cell?, Array.getElem?_eq_none hl] at h
theorem block_of_add (a : Addr) (n : Nat) : (a.add n).block = a.block := by unfold Addr.add; split <;> rfl
theorem spot_of_cell {w : World} {a : Addr} {v : Value} (h : w.cell? a = some v) : a = ⟨a.block, a.off, none⟩ := by
  obtain ⟨b, o, s⟩ := a
  unfold World.cell? at h
  split at h
  · split at h
    · cases h
    · rename_i hs; cases s with
      | none => rfl
      | some y => simp at hs
  · cases h
/-- blocks that lie side by side, from b on -/
def Rows (w : World) : Nat → List (TypeId × Array Value) → Prop
  | _, [] => True
  | b, x :: l => Row w b x.1 x.2 ∧ Rows w (b + 1) l
section
variable {w w' w0 : World} {b : Nat} {L : List (TypeId × Array Value)}
theorem Rows.imp (h : ∀ k t cs, b ≤ k → k < b + L.length → Row w k t cs → Row w' k t cs) (H : Rows w b L) : Rows w' b L := by
  induction L generalizing b with
  | nil => trivial
  | cons x l ih =>
    refine ⟨h b _ _ (Nat.le_refl _) (by simp) H.1, ih (fun k t cs h1 h2 => h k t cs (by omega) (by simp; omega)) H.2⟩
theorem Rows.le (H : Rows w b L) (hb : b ≤ w.heap.size) : b + L.length ≤ w.heap.size := by
  induction L generalizing b with
  | nil => simpa using hb
  | cons x l ih => have := ih H.2 H.1.lt; simp; omega
theorem Rows.alloc (h : Rows w b L) (o : Obj) : Rows (w.alloc o) b L := h.imp fun _ _ _ _ _ r => r.alloc o
theorem Rows.drew (h : Rows w b L) : Rows w.drew b L := h.imp fun _ _ _ _ _ r => r.drew
theorem Rows.below (h : Rows w b L) (hb : Below w.heap.size w w') : Rows w' b L := h.imp fun _ _ _ _ _ r => r.below hb r.lt
theorem Rows.set_imp (j : Nat) (t : TypeId) (cs : Array Value) (hr : Row w' (b + j) t cs) (h : ∀ k t cs, k ≠ b + j → Row w k t cs → Row w' k t cs) (H : Rows w b L) : Rows w' b (L.set j (t, cs)) := by
  induction L generalizing b j with
  | nil => trivial
  | cons x l ih =>
    cases j with
    | zero => exact ⟨hr, H.2.imp fun k t cs h1 h2 => h k t cs (by omega)⟩
    | succ j => exact ⟨h _ _ _ (by omega) H.1, ih j (by rwa [Nat.add_assoc, Nat.add_comm 1]) (fun k t cs h1 => h k t cs (by omega)) H.2⟩
theorem Rows.push (H : Rows w b L) (h : w.heap.size = b + L.length) (t : TypeId) (cs : Array Value) : Rows (w.alloc (.cells cs t)) b (L ++ [(t, cs)]) := by
  have := (H.alloc (.cells cs t))
  have e := Row.new w t cs
  rw [h] at e
  clear H h
  induction L generalizing b with
  | nil => exact ⟨e, trivial⟩
  | cons x l ih => exact ⟨this.1, ih this.2 (by simp only [List.length_cons] at e; rwa [Nat.add_assoc, Nat.add_comm 1])⟩
end
/-- blocks of a call's own, and nothing else was touched -/
structure Scene (w0 : World) (L : List (TypeId × Array Value)) (w : World) : Prop where
  rows : Rows w w0.heap.size L
  be : Below w0.heap.size w0 w
section
variable {w w' w0 : World} {L : List (TypeId × Array Value)}
theorem Scene.none (w : World) : Scene w [] w := ⟨trivial, Below.refl _ w⟩
theorem Scene.push (h : Scene w0 L w) (e : w.heap.size = w0.heap.size + L.length) (t : TypeId) (cs : Array Value) : Scene w0 (L ++ [(t, cs)]) (w.alloc (.cells cs t)) :=
  ⟨h.rows.push e t cs, h.be.alloc h.be.size _⟩
theorem Scene.alloc (h : Scene w0 L w) (o : Obj) : Scene w0 L (w.alloc o) := ⟨h.rows.alloc o, h.be.alloc h.be.size o⟩
theorem Scene.drew (h : Scene w0 L w) : Scene w0 L w.drew := ⟨h.rows.drew, h.be.drew⟩
theorem Scene.below (h : Scene w0 L w) (hb : Below w.heap.size w w') : Scene w0 L w' := ⟨h.rows.below hb, h.be.trans (hb.mono h.be.size)⟩
theorem Scene.grown (j : Nat) (t : TypeId) (cs : Array Value) (h : Scene w0 L w) (hg : w.grownBy w' (some (w0.heap.size + j))) (hr : Row w' (w0.heap.size + j) t cs) : Scene w0 (L.set j (t, cs)) w' :=
  ⟨h.rows.set_imp j t cs hr fun k t cs hk r => r.grown hg (by simpa using hk),
    ⟨hg.os.trans h.be.os, hg.tape.trans h.be.tape, hg.output.trans h.be.output, Nat.le_trans h.be.size hg.size, fun k hk => (hg.block k (Nat.lt_of_lt_of_le hk h.be.size) (by simp; omega)).trans (h.be.block k hk)⟩⟩
theorem Scene.put (j : Nat) (h : Scene w0 L w) (t : TypeId) (cs : Array Value) (hr : Row w (w0.heap.size + j) t cs) (i : Nat) (u : Value) : Scene w0 (L.set j (t, cs.setIfInBounds i u)) (w.setCell ⟨w0.heap.size + j, i, .none⟩ u) :=
  ⟨h.rows.set_imp j t _ (hr.set i u) fun k t cs hk r => r.far (by simpa using hk) u, h.be.setCell (by simp) u⟩
variable {x0 x1 x2 x3 x4 x5 : TypeId × Array Value}
theorem Scene.r0 (h : Scene w0 (x0 :: L) w) : Row w w0.heap.size x0.1 x0.2 := h.rows.1
theorem Scene.r1 (h : Scene w0 (x0 :: x1 :: L) w) : Row w (w0.heap.size + 1) x1.1 x1.2 := h.rows.2.1
theorem Scene.r2 (h : Scene w0 (x0 :: x1 :: x2 :: L) w) : Row w (w0.heap.size + 1 + 1) x2.1 x2.2 := h.rows.2.2.1
theorem Scene.r3 (h : Scene w0 (x0 :: x1 :: x2 :: x3 :: L) w) : Row w (w0.heap.size + 1 + 1 + 1) x3.1 x3.2 := h.rows.2.2.2.1
theorem Scene.r4 (h : Scene w0 (x0 :: x1 :: x2 :: x3 :: x4 :: L) w) : Row w (w0.heap.size + 1 + 1 + 1 + 1) x4.1 x4.2 := h.rows.2.2.2.2.1
theorem Scene.r5 (h : Scene w0 (x0 :: x1 :: x2 :: x3 :: x4 :: x5 :: L) w) : Row w (w0.heap.size + 1 + 1 + 1 + 1 + 1) x5.1 x5.2 := h.rows.2.2.2.2.2.1
end

theorem Scene.app {w0 w w' : World} {L : List (TypeId × Array Value)} {r : Option Nat} (h : Scene w0 L w) (hg : w.grownBy w' r) (hr : ∀ g, r = some g → w0.heap.size + L.length ≤ g) : Scene w0 L w' :=
  ⟨h.rows.imp fun k t cs _ hk r' => r'.grown hg (fun e => by have := hr k e.symm; omega), ⟨hg.os.trans h.be.os, hg.tape.trans h.be.tape, hg.output.trans h.be.output, Nat.le_trans h.be.size hg.size, fun k hk => (hg.block k (Nat.lt_of_lt_of_le hk h.be.size) (fun e => by have := hr k e.symm; omega)).trans (h.be.block k hk)⟩⟩
/-- a row of numbers that is read -/
abbrev Rd (w : World) (A : Option Addr) (l : List Int) : Prop := Kd.C (Kd.int .i64) w A l.length l
/-- a row of numbers of one's own -/
abbrev Own (w : World) (base : Nat) (v : Value) (l : List Int) : Prop := Kd.R (Kd.int .i64) 22 w base (fun _ => True) v l
theorem Rd.cells {w : World} {A : Option Addr} {l : List Int} (h : Rd w A l) (hne : 0 < l.length) : ∃ b off, A = some ⟨b, off, none⟩ ∧ b < w.heap.size ∧ ∀ (j : Nat) (x : Int), l[j]? = some x → w.cell? ⟨b, off + j, none⟩ = some (I x) := by
  obtain ⟨ad, rfl, hc⟩ := h.2.2 hne
  have key : ∀ (j : Nat) (x : Int), l[j]? = some x → w.cell? (ad.add j) = some (I x) := fun j x hx => by
    obtain ⟨c, _, hr, hcell⟩ := hc j x hx
    have e : c = [I x] := hr
    subst e
    have h1 : (Kd.int .i64).sz = 1 := rfl
    have := hcell 0 _ rfl
    rw [h1, Nat.mul_one, Nat.add_zero] at this
    exact this
  have h0 := key 0 _ (List.getElem?_eq_getElem hne)
  have ea0 : ad.add 0 = ad := by simp [Addr.add]
  rw [ea0] at h0
  have hs := spot_of_cell h0
  have hl := cell_lt h0
  obtain ⟨ab, ao, asp⟩ := ad
  injection hs with _ _ hs
  subst hs
  refine ⟨ab, ao, rfl, hl, fun j x hx => ?_⟩
  have := key j x hx
  unfold Addr.add at this
  by_cases hj : j = 0
  · subst hj
    rw [if_pos rfl] at this
    exact this
  · rw [if_neg hj] at this
    exact this
theorem Rd.nil (w : World) (A : Option Addr) : Rd w A [] := ⟨rfl, by show (0:Nat) ≤ _; omega, fun h => absurd h (Nat.lt_irrefl 0)⟩
theorem Rd.below {w w' : World} {A : Option Addr} {l : List Int} (h : Rd w A l) (hb : Below w.heap.size w w') : Rd w' A l := Kd.C_below h hb
theorem Own.reads {w : World} {base : Nat} {v : Value} {l : List Int} (h : Own w base v l) : ∃ A c, v = .slice A l.length c ∧ l.length ≤ c ∧ Rd w A l := Kd.R_reads h
theorem Own.below {w w' : World} {base : Nat} {v : Value} {l : List Int} (h : Own w base v l) (hb : Below w.heap.size w w') : Own w' base v l := Kd.R_below h hb
theorem Own.lower {w : World} {base base' : Nat} {v : Value} {l : List Int} (h : Own w base v l) (hb : base' ≤ base) : Own w base' v l := Kd.R_lower h hb
/-- one's own row, by its cells -/
theorem Own.row {w : World} {base : Nat} {v : Value} {l : List Int} (h : Own w base v l) : w.ownsRow base 22 1 v l.length (l.map I) := by
  exact Kd.own_of_R (enc := I) h
theorem Own.of_row {w : World} {base : Nat} {v : Value} {l : List Int} (h : w.ownsRow base 22 1 v l.length (l.map I)) : Own w base v l := Kd.R_of_own (enc := I) h (fun _ _ => trivial)
end Go.Proofs.Ytninmcmajbfccaa.KK

/- Layer 3: one more number; a number of a matrix; a matrix whose numbers are told. -/
namespace Go.Proofs.Ytninmcmajbfccaa.KK
open Go.RowKit Go.Proofs.YtninmcmajbfccaaW.PrintWords Go.Proofs.YtninmcmajbfccaaW.PrintLast Go.Proofs.YtninmcmajbfccaaW.PrintMore
set_option linter.unusedVariables false
set_option linter.unusedSimpArgs false
theorem q_info : (Try.prog.info? 22).map (fun i => (i.zero, i.size, i.bytes)) = some (some (I 0), 1, 8) := by kernel_rfl
theorem wpList_push (w : World) {ops : Array Oper} {rest : List Oper} {o : Oper} {a : Act} {Q : Exit → Act → World → Prop} (hgd : o.guard = none) (s x : Operand)
    (ho : o.op = .call { callee := .builtin .append, args := #[s, x], argTypes := #[24, 24] })
    (base : Nat) (v : Value) (l : List Int) (q : Int) (bx : Nat) (hs : a.eval s = v) (hx : a.eval x = .slice (some ⟨bx, 0, none⟩) 1 1) (hown : Own w base v l) (hc : w.cell? ⟨bx, 0, none⟩ = some (I q)) (hbase : base ≤ w.heap.size) (hlen : l.length ≤ 1000000)
    (h : ∀ A c w', Own w' base (.slice A (l.length + 1) c) (l ++ [q]) → w.grownBy w' v.ownBlock → ((Value.slice A (l.length + 1) c).ownBlock = v.ownBlock ∨ (Value.slice A (l.length + 1) c).ownBlock = some w.heap.size) → wpList Try.prog ops Q rest (a.put o.dst (.slice A (l.length + 1) c)) w') :
    wpList Try.prog ops Q (o :: rest) a w := by
  obtain ⟨i0, hi0, hz0, hz1, hz2⟩ := info_parts q_info
  refine wpList_append_own_at w hgd s x 24 ho base 22 i0 (I 0) 1 8 Try.underlying24 hi0 hz0 hz1 hz2 rfl (by omega) v l.length (l.map I) hs hown.row ⟨bx, 0, none⟩ 1 1 [I q] hx rfl ?_ ?_ (by simp only [maxLen]; omega) (by omega) hbase ?_
  · intro j u hj
    match j, hj with
    | 0, hj =>
      simp at hj
      subst hj
      simpa [Addr.add] using hc
  · intro u hu
    simp at hu
    subst hu
    rfl
  · intro v' w' hown' hg _ hat
    have hl : (l ++ [q]).length = l.length + 1 := by simp
    have ho2 : Own w' base v' (l ++ [q]) := Own.of_row (by rw [hl, List.map_append]; exact hown')
    obtain ⟨A, c, rfl, _, _⟩ := ho2.reads
    rw [hl] at ho2 hat ⊢
    exact h A c w' ho2 hg hat
theorem getD_of {l : List Int} {j : Nat} (h : j < l.length) : l[j]? = some (l.getD j 0) := by
  rw [List.getD_eq_getElem?_getD, List.getElem?_eq_getElem h]; rfl
set_option maxRecDepth 100000 in
set_option maxHeartbeats 2000000 in
theorem at_calls (r : Int) (c : Nat) (A : Option Addr) (cap : Nat) (l : List Int) (i k : Nat) (w : World) (hl : Rd w A l) (h : i * c + k < l.length) (hle : l.length ≤ 1000000) :
    Calls Try.prog 80 #[.agg #[I r, I c, .slice A l.length cap], I i, I k] w fun e w' => e = .returned (I (l.getD (i * c + k) 0)) ∧ Below w.heap.size w w' := by
  obtain ⟨b, off, rfl, hb, hc⟩ := hl.cells (by omega)
  have x := hc _ _ (getD_of h)
  have hb0 : Hid (Below w.heap.size w (w.alloc (.cells #[I r, I c, .slice (some ⟨b, off, none⟩) l.length cap] 26))) := Lib.hid ((Below.refl _ _).alloc (Nat.le_refl _) _)
  obtain ⟨q, hq⟩ : ∃ q, l.getD (i * c + k) 0 = q := ⟨_, rfl⟩
  rw [hq] at x ⊢
  obtain ⟨p, hp⟩ : ∃ p : Nat, i * c = p := ⟨_, rfl⟩
  have hp2 : (i : Int) * (c : Int) = (p : Int) := by rw [← hp]; push_cast; rfl
  have hw1 : IntKind.i64.wrap ((i : Int) * (c : Int)) = (p : Int) := by rw [hp2]; simp [IntKind.wrap, IntKind.bits, IntKind.signed]; omega
  rw [hp] at x h
  have hw2 : IntKind.i64.wrap ((p : Int) + (k : Int)) = ((p + k : Nat) : Int) := by simp [IntKind.wrap, IntKind.bits, IntKind.signed]; omega
  obtain ⟨j, hj⟩ : ∃ j : Nat, p + k = j := ⟨_, rfl⟩
  rw [hj] at x h hw2
  have hj0 : (0 : Int) ≤ (j : Int) := by omega
  have hj1 : (j : Int) < l.length := by omega
  clear hq hp hp2 hj hc hl h
  go_enter Try.func80, Try.ntmps80
  go_wp2
  go_ret
  exact ⟨rfl, hb0.out⟩
end Go.Proofs.Ytninmcmajbfccaa.KK

/- Layer 3: a matrix whose numbers are told. -/
namespace Go.Proofs.Ytninmcmajbfccaa.KK
open Go.RowKit Go.Proofs.YtninmcmajbfccaaW.PrintWords Go.Proofs.YtninmcmajbfccaaW.PrintLast Go.Proofs.YtninmcmajbfccaaW.PrintMore
set_option linter.unusedVariables false
set_option linter.unusedSimpArgs false
abbrev fill3 (w : World) (C : Nat) (a b c : Value) : World := ((w.setCell ⟨C, 0, none⟩ a).setCell ⟨C, 1, none⟩ b).setCell ⟨C, 2, none⟩ c
section
variable {w w0 : World} {B C : Nat} {t : TypeId} {cs : Array Value} {a b c : Value}
theorem Row.fill3 {a' b' c' : Value} (h : Row w B t #[a', b', c']) (a b c : Value) : Row (fill3 w B a b c) B t #[a, b, c] := by
  simpa using ((h.set 0 a).set 1 b).set 2 c
theorem Row.far3 (h : Row w B t cs) (hne : B ≠ C) : Row (KK.fill3 w C a b c) B t cs :=
  ((h.far (p := ⟨C, 0, none⟩) hne a).far (p := ⟨C, 1, none⟩) hne b).far (p := ⟨C, 2, none⟩) hne c
theorem Below.fill3 {B : Nat} (h : Below B w0 w) (hC : B ≤ C) (a b c : Value) : Below B w0 (KK.fill3 w C a b c) :=
  ((h.setCell (p := ⟨C, 0, none⟩) hC a).setCell (p := ⟨C, 1, none⟩) hC b).setCell (p := ⟨C, 2, none⟩) hC c
theorem Own.far {base : Nat} {v : Value} {l : List Int} (h : Own w base v l) {p : Addr} (hp : p.block < base) (u : Value) : Own (w.setCell p u) base v l :=
  Own.of_row (own_move h.row fun k hk => Below.heap_setCell w p u k (by have := (h.row.lt k hk).1; omega))
theorem Own.fill3 {base : Nat} {v : Value} {l : List Int} (h : Own w base v l) (hp : C < base) (a b c : Value) : Own (KK.fill3 w C a b c) base v l :=
  ((h.far (p := ⟨C, 0, none⟩) hp a).far (p := ⟨C, 1, none⟩) hp b).far (p := ⟨C, 2, none⟩) hp c
theorem Own.alloc {base : Nat} {v : Value} {l : List Int} (h : Own w base v l) (o : Obj) : Own (w.alloc o) base v l := h.below ((Below.refl _ _).alloc (Nat.le_refl _) o)
theorem Own.nil (w : World) (base : Nat) : Own w base (.slice none 0 0) [] := Kd.R_nil _ _ _ _ _
end
section
variable {w : World} {B : Nat} {a b c : Value} {fn : Func} {k j m : Nat} {tmps : Array Value}
theorem res3 (h : fn.results = #[.cell k 26]) (hk : tmps.getD k undef = .pointer (some ⟨B, 0, none⟩)) (R : Row w B 26 #[a, b, c]) :
    (results fn tmps).run Try.prog w = .ok (.agg #[a, b, c]) w := by
  have c := R.cell
  have hk' : tmps[k]?.getD undef = .pointer (some ⟨B, 0, none⟩) := by simpa using hk
  simp only [results, h]
  simp [go_sem, hk', c]
theorem res3t (h : fn.results = #[.cell k 26, .tmp j]) (hk : tmps.getD k undef = .pointer (some ⟨B, 0, none⟩)) (R : Row w B 26 #[a, b, c]) :
    (results fn tmps).run Try.prog w = .ok (.tuple #[.agg #[a, b, c], tmps.getD j undef]) w := by
  have c := R.cell
  have hk' : tmps[k]?.getD undef = .pointer (some ⟨B, 0, none⟩) := by simpa using hk
  simp only [results, h]
  simp [go_sem, hk', c]
theorem res3tt (h : fn.results = #[.cell k 26, .tmp j, .tmp m]) (hk : tmps.getD k undef = .pointer (some ⟨B, 0, none⟩)) (R : Row w B 26 #[a, b, c]) :
    (results fn tmps).run Try.prog w = .ok (.tuple #[.agg #[a, b, c], tmps.getD j undef, tmps.getD m undef]) w := by
  have c := R.cell
  have hk' : tmps[k]?.getD undef = .pointer (some ⟨B, 0, none⟩) := by simpa using hk
  simp only [results, h]
  simp [go_sem, hk', c]
end
/-- the numbers of the rows ahead of row i -/
def upto (c : Nat) (q : Nat → Nat → Int) (i : Nat) : List Int := (List.range i).flatMap fun i => (List.range c).map (q i)
/-- whether one of them was odd -/
def anyTo (c : Nat) (o : Nat → Nat → Bool) (i : Nat) : Bool := (List.range i).any fun i => (List.range c).any (o i)
section
variable {c i k : Nat} {q : Nat → Nat → Int} {o : Nat → Nat → Bool}
theorem upto_length : (upto c q i).length = i * c := by
  induction i with
  | zero => simp [upto]
  | succ i ih => 
    unfold upto at ih ⊢
    rw [List.range_succ, List.flatMap_append, List.length_append, ih]
    simp [Nat.succ_mul]
theorem upto_succ : upto c q (i + 1) = upto c q i ++ (List.range c).map (q i) := by
  unfold upto
  rw [List.range_succ, List.flatMap_append]
  simp
theorem anyTo_succ : anyTo c o (i + 1) = (anyTo c o i || (List.range c).any (o i)) := by
  unfold anyTo
  rw [List.range_succ, List.any_append]
  simp
theorem map_snoc : (List.range (k + 1)).map (q i) = (List.range k).map (q i) ++ [q i k] := by
  rw [List.range_succ, List.map_append]; rfl
theorem any_snoc : (List.range (k + 1)).any (o i) = ((List.range k).any (o i) || o i k) := by
  rw [List.range_succ, List.any_append]; simp
end
/-- a function with a body is entered -/
def Enters (n : Nat) : Prop := ∀ (args : Array Value) (w : World), (callFunc n args).run Try.prog w = .ok (.enter n args) w
theorem enters {n : Nat} {fn : Func} (h : Try.prog.funcs[n]? = some fn) (hn : (fn.name == "runtime.NumGoroutine") = false) (hb : fn.body.isNone = false) : Enters n := fun args w => by
  unfold callFunc
  simp only [Sem.run_bind, go_sem, Result.andThen_ok]
  show Sem.run Try.prog _ w = _
  rw [h]
  simp only [hn, hb, Sem.run_pure]
  rfl
/-- what telling a number does -/
def Tells (w : World) (n : Nat) (cap : Array Value) (r c : Nat) (q : Nat → Nat → Int) (o : Nat → Nat → Bool) : Prop :=
  ∀ (i k : Nat) (w' : World), i < r → k < c → Below w.heap.size w w' → Calls Try.prog n (#[I i, I k] ++ cap) w' fun e w'' => e = .returned (.tuple #[I (q i k), .bool (o i k)]) ∧ Below w'.heap.size w' w''
set_option maxRecDepth 100000 in
set_option maxHeartbeats 4000000 in
theorem made_calls (n : Nat) (cap : Array Value) (r c : Nat) (q : Nat → Nat → Int) (o : Nat → Nat → Bool) (w : World) (hr : r ≤ 8) (hc : c ≤ 8) (he : Enters n) (ht : Tells w n cap r c q o) :
    Calls Try.prog 59 #[.agg #[I r, I c], .func (.func n) #[] cap] w fun e w' => ∃ v, e = .returned (.tuple #[.agg #[I r, I c, v], .bool (anyTo c o r)]) ∧ Own w' w.heap.size v (upto c q r) ∧ Below w.heap.size w w' := by
  have HR := Lib.hid hr
  have HC := Lib.hid hc
  have HT := Lib.hid ht
  have HE := Lib.hid he
  clear hr hc ht he
  have N : Hid (Scene w [(99, #[I r, I c]), (26, #[I 0, I 0, .slice none 0 0]), (26, #[I r, I c, .slice none 0 0])] (((w.alloc (.cells #[I r, I c] 99)).alloc (.cells #[I 0, I 0, .slice none 0 0] 26)).alloc (.cells #[I r, I c, .slice none 0 0] 26))) := Lib.hid ((((Scene.none w).push (by simp) _ _).push (by simp) _ _).push (by simp) _ _)
  go_enter Try.func59, Try.ntmps59
  go_wp2_with fail
  go_loopw [7, 19] (fun od ii wr => ∃ (i : Nat) (b : Bool) (l : List Int) (A : Option Addr) (cp : Nat), i ≤ r ∧ ii = .int .i64 i ∧ od = .bool b ∧ Hid (l = upto c q i ∧ b = anyTo c o i) ∧ Hid (Scene w [(99, #[I r, I c]), (26, #[I 0, I 0, .slice none 0 0]), (26, #[I r, I c, .slice A l.length cp])] wr) ∧ Hid (Own wr (w.heap.size + 3) (.slice A l.length cp) l)) (fun _ ii _ => r - (intOf ii).toNat)
  case atStart => exact ⟨0, false, [], none, 0, by omega, rfl, rfl, Lib.hid ⟨rfl, rfl⟩, N, Lib.hid (Own.nil _ _)⟩
  case round =>
    clear N
    obtain ⟨i, b, l, A, cp, hi, rfl, rfl, E, N, O⟩ := hrel
    have x0 := N.out.r0.cell
    have x2 := N.out.r2.cell
    have t0 := N.out.r0.lt
    have t2 := N.out.r2.lt
    by_cases hir : i = r
    · subst hir
      have x1 := N.out.r1.cell
      have g1 := N.out.r1.free
      have t1 := N.out.r1.lt
      go_wp2
      refine bodyPost_ret (res3t rfl rfl (N.out.r1.fill3 _ _ _)) rfl ⟨_, by rw [← E.out.2]; rfl, ?_, Below.fill3 N.out.be (by omega) _ _ _⟩
      rw [← E.out.1]
      exact (O.out.fill3 (by omega) _ _ _).lower (by omega)
    have hlt : (i : Int) < r := by omega
    have STEP : Hid (i + 1 ≤ r ∧ r - (i + 1) < r - i) := Lib.hid (by omega)
    have hw64 : IntKind.i64.wrap ((i : Int) + 1) = (i : Int) + 1 := by have := HR.out; simp [IntKind.wrap, IntKind.bits, IntKind.signed]; omega
    have HI := Lib.hid (show i < r by omega)
    have HL : Hid (l.length = i * c) := Lib.hid (by rw [E.out.1]; exact upto_length)
    clear hi hir
    go_wp2_with fail
    go_loopw [7, 24] (fun od kk wr => ∃ (k : Nat) (b2 : Bool) (l2 : List Int) (A2 : Option Addr) (c2 : Nat), k ≤ c ∧ kk = .int .i64 k ∧ od = .bool b2 ∧ Hid (l2 = l ++ (List.range k).map (q i) ∧ b2 = (b || (List.range k).any (o i))) ∧ Hid (Scene w [(99, #[I r, I c]), (26, #[I 0, I 0, .slice none 0 0]), (26, #[I r, I c, .slice A2 l2.length c2])] wr) ∧ Hid (Own wr (w.heap.size + 3) (.slice A2 l2.length c2) l2)) (fun _ kk _ => c - (intOf kk).toNat)
    case atStart => exact ⟨0, b, l, A, cp, by omega, rfl, rfl, Lib.hid ⟨by simp, by simp⟩, N, O⟩
    case round =>
      clear N O x0 x2 t0 t2
      obtain ⟨k, b2, l2, A2, c2, hk, rfl, rfl, E2, N, O⟩ := hrel
      have x0 := N.out.r0.cell
      have x2 := N.out.r2.cell
      have g2 := N.out.r2.free
      have t0 := N.out.r0.lt
      have t2 := N.out.r2.lt
      by_cases hkc : k = c
      · subst hkc
        go_wp2
        go_roundw
        case rel => exact ⟨i + 1, b2, l2, A2, c2, STEP.out.1, by go_num, rfl, Lib.hid ⟨by rw [upto_succ, ← E.out.1]; exact E2.out.1, by rw [anyTo_succ, ← E.out.2]; exact E2.out.2⟩, N, O⟩
        case measure =>
          have h := STEP.out.2
          show r - ((i : Int) + 1).toNat < r - ((i : Int)).toNat
          rw [show ((i : Int) + 1).toNat = i + 1 by omega, show ((i : Int)).toNat = i by omega]
          exact h
      have hlt2 : (k : Int) < c := by omega
      have STEP2 : Hid (k + 1 ≤ c ∧ c - (k + 1) < c - k) := Lib.hid (by omega)
      have hk64 : IntKind.i64.wrap ((k : Int) + 1) = (k : Int) + 1 := by have := HC.out; simp [IntKind.wrap, IntKind.bits, IntKind.signed]; omega
      have HK := Lib.hid (show k < c by omega)
      have HL2 : Hid (l2.length ≤ 1000) := Lib.hid (by rw [E2.out.1, List.length_append, List.length_map, List.length_range, HL.out]; have := HI.out; have := HR.out; have := HC.out; have := HK.out; have : i * c ≤ 7 * 8 := Nat.mul_le_mul (by omega) (by omega); omega)
      clear hk hkc
      go_wp2_with fail
      rw [HE.out _ _, Oper.upon_enter]
      refine (HT.out i k _ HI.out HK.out N.out.be).mono ?_
      rintro e w2 ⟨rfl, hb⟩
      replace N := Lib.hid (N.out.below hb)
      replace O := Lib.hid (O.out.below hb)
      clear hb x0 x2 g2 t0 t2
      obtain ⟨y, hy⟩ : ∃ y, q i k = y := ⟨_, rfl⟩
      obtain ⟨z, hz⟩ : ∃ z, o i k = z := ⟨_, rfl⟩
      rw [hy, hz]
      have HY := Lib.hid hy
      have HZ := Lib.hid hz
      clear hy hz
      have x0 := N.out.r0.cell
      have x2 := N.out.r2.cell
      have g2 := N.out.r2.free
      have t0 := N.out.r0.lt
      have t2 := N.out.r2.lt
      have hB : w.heap.size + 3 ≤ w2.heap.size := by omega
      have ob : Hid (∀ A3 c3, (Value.slice A3 (l2.length + 1) c3).ownBlock = (Value.slice A2 l2.length c2).ownBlock ∨ (Value.slice A3 (l2.length + 1) c3).ownBlock = some w2.heap.size → True) := Lib.hid (fun _ _ _ => trivial)
      cases b2
      all_goals
        go_wp2_with (at_builtin
                     refine wpList_push _ rfl (.tmp 35) (.tmp 37) rfl (w.heap.size + 3) _ l2 y w2.heap.size rfl rfl ?own ?cell ?base ?len ?_
                     case own => exact O.out.alloc _
                     case cell => exact (Row.new w2 22 #[I y]).cell 0
                     case base => (simp; omega)
                     case len => (have := HL2.out; omega)
                     intro A3 c3 w3 hown hg hat
                     have O3 := Lib.hid hown
                     have N3 := Lib.hid ((N.out.alloc (.cells #[I y] 22)).app hg (fun g h => by have := (O.out.row.lt g h).1; simp; omega))
                     have x2 := N3.out.r2.cell
                     have g2 := N3.out.r2.free
                     have t2 := N3.out.r2.lt
                     clear hown hg hat)
        have N4 := Lib.hid (N3.out.put 2 26 _ N3.out.r2 2 (.slice A3 (l2.length + 1) c3))
        have O4 := Lib.hid (O3.out.far (p := ⟨w.heap.size + 1 + 1, 2, none⟩) (by dsimp only; omega) (.slice A3 (l2.length + 1) c3))
        go_roundw
        case rel => exact ⟨k + 1, _, l2 ++ [y], A3, c3, STEP2.out.1, by go_num, rfl, Lib.hid ⟨by rw [map_snoc, HY.out, ← List.append_assoc, ← E2.out.1], by rw [any_snoc, HZ.out, ← Bool.or_assoc, ← E2.out.2]; simp⟩, by simpa using N4, by simpa using O4⟩
        case measure =>
          have h := STEP2.out.2
          show c - ((k : Int) + 1).toNat < c - ((k : Int)).toNat
          rw [show ((k : Int) + 1).toNat = k + 1 by omega, show ((k : Int)).toNat = k by omega]
          exact h
end Go.Proofs.Ytninmcmajbfccaa.KK

/- Plain laws of layer 1: clamps, sizes, products. -/
namespace Go.Proofs.Ytninmcmajbfccaa.PQ
open Go.RowKit Go.Proofs.YtninmcmajbfccaaW.PrintWords Go.Proofs.YtninmcmajbfccaaW.PrintLast Go.Proofs.YtninmcmajbfccaaW.PrintMore

theorem u64_wrap (n : Int) : IntKind.u64.wrap n = n % 18446744073709551616 := by simp [IntKind.wrap, IntKind.bits, IntKind.signed]
theorem wraps_u64 (n : Int) (h₀ : 0 ≤ n) (h₁ : n < 2 ^ 64) : IntKind.u64.wrap n = n := by rw [u64_wrap]; omega
theorem w64 {n : Int} (h0 : -9223372036854775808 ≤ n) (h1 : n ≤ 9223372036854775807) : wrap64 n = n := by unfold wrap64; omega
theorem mask24 (x : Int) (h0 : 0 ≤ x) (h1 : x < 18446744073709551616) : Go.bits .and .u64 x 16777215 = x % 16777216 :=
  bits_mask .u64 64 (by decide) wraps_u64 24 (by decide) x h0 h1
theorem mask1 (x : Int) (h0 : 0 ≤ x) (h1 : x < 18446744073709551616) : Go.bits .and .u64 x 1 = x % 2 :=
  bits_mask .u64 64 (by decide) wraps_u64 1 (by decide) x h0 h1
theorem or40 (x y : Int) (hx₀ : 0 ≤ x) (hx₁ : x < 1099511627776) (hy₀ : 0 ≤ y) (hy₁ : y < 18446744073709551616) (hy : y % 1099511627776 = 0) : Go.bits .or .u64 x y = y + x := by
  have h := bits_join .u64 64 (by decide) wraps_u64 40 y x hy₀ hy hy₁ hx₀ hx₁ (by omega)
  rw [← h]
  show IntKind.u64.wrap _ = IntKind.u64.wrap _
  rw [BitVec.or_comm]

/-- in bounds -/
def cl (a : Int) : Int := if a < -70368744177664 then -70368744177664 else if 70368744177663 < a then 70368744177663 else a
def od (a : Int) : Bool := decide (a < -70368744177664 ∨ 70368744177663 < a)
theorem cl_lo (a : Int) : -70368744177664 ≤ cl a := by unfold cl; repeat' split <;> omega
theorem cl_hi (a : Int) : cl a ≤ 70368744177663 := by unfold cl; repeat' split <;> omega
theorem cl_in {a : Int} (h0 : -70368744177664 ≤ a) (h1 : a ≤ 70368744177663) : cl a = a := by unfold cl; repeat' split <;> omega
theorem od_in {a : Int} (h0 : -70368744177664 ≤ a) (h1 : a ≤ 70368744177663) : od a = false := by unfold od; simp; omega
theorem od_false {a : Int} (h : od a = false) : -70368744177664 ≤ a ∧ a ≤ 70368744177663 := by unfold od at h; simp at h; omega
theorem clampZ_eq (a : Int) : clampZ a = cl a := by unfold clampZ mn mx cl; repeat' split <;> omega
theorem clampB_eq (a : Int) : clampB a = od a := by
  have e : (mn (mx a (-70368744177664)) 70368744177663) = cl a := clampZ_eq a
  unfold clampB
  rw [e, Bool.eq_iff_iff, bne_iff_ne]
  unfold cl od
  simp only [decide_eq_true_eq]
  repeat' split <;> omega
theorem clamp_f (a : Int) : qfix_Clamp.f a = some (cl a, od a) := by
  have h1 := clampZ_eq a
  have h2 := clampB_eq a
  unfold clampZ at h1
  unfold clampB at h2
  unfold qfix_Clamp.f
  rw [h2, h1]
theorem both_f (a b : Int) : qfix_both.f a b = some (cl a, cl b, od a || od b) := by
  unfold qfix_both.f
  rw [clamp_f, clamp_f]
  simp only [Option.bind_some]
  cases od a <;> simp
/-- a size -/
def sz (a : Int) : Int := if a < 0 then -a else a
theorem sz_0 (a : Int) : 0 ≤ sz a := by unfold sz; split <;> omega
theorem sz_cl (a : Int) : sz (cl a) ≤ 70368744177664 := by have := cl_lo a; have := cl_hi a; unfold sz; split <;> omega
theorem sz_neg (a : Int) : sz (-a) = sz a := by unfold sz; repeat' split <;> omega
theorem size_f (a : Int) (h0 : -70368744177664 ≤ a) (h1 : a ≤ 70368744177664) : qfix_size.f a = some (sz a) := by
  unfold qfix_size.f sz
  split
  · rw [w64 (by omega) (by omega), u64_wrap, Int.emod_eq_of_lt (by omega) (by omega)]
  · rw [u64_wrap, Int.emod_eq_of_lt (by omega) (by omega)]
/-- the low word of a product, rounded -/
def lw (X : Int) : Int :=
  let l := (X / 16777216) % 18446744073709551616
  if X % 16777216 > 8388608 then (l + 1) % 18446744073709551616 else if X % 16777216 = 8388608 then (if l % 2 = 1 then (l + 1) % 18446744073709551616 else l) else l
/-- what is told of a product's size and sign -/
def sg (h l : Int) (s : Bool) : Int × Bool :=
  if h = 0 then (if l > 70368744177664 then (cl (if s = true then -70368744177664 else 70368744177664), true) else (cl (if s = true then -l else l), od (if s = true then -l else l))) else (cl (if s = true then -70368744177664 else 70368744177664), true)
theorem signed_f (h l : Int) (s : Bool) (hl : 0 ≤ l) : qfix_signed.f h l s = some (sg h l s) := by
  unfold qfix_signed.f sg
  have e1 : turnZ s 70368744177664 = if s = true then -70368744177664 else 70368744177664 := by unfold turnZ; cases s <;> simp [wrap64]
  rw [clampZ_eq, e1]
  split
  · split
    · rfl
    · have e2 : turnZ s (wrap64 l) = if s = true then -l else l := by
        rw [w64 (by omega) (by omega)]
        unfold turnZ
        cases s <;> simp
        rw [w64 (by omega) (by omega)]
      rw [e2, clampZ_eq, clampB_eq]
  · rfl
def flag (o : Bool) (p : Int × Bool) : Int × Bool := (p.1, o || p.2)
theorem flag_some (o : Bool) (p : Int × Bool) : (if o = true then (some (p.1, true)) else (some (p.1, p.2))) = some (flag o p) := by cases o <;> simp [flag]
/-- a product -/
theorem mul_f (a b : Int) : qfix_Mul.f a b = some (flag (od a || od b) (sg (sz (cl a) * sz (cl b) / 309485009821345068724781056) (lw (sz (cl a) * sz (cl b))) ((decide (cl a < 0)) != (decide (cl b < 0))))) := by
  have ha := sz_cl a
  have hb := sz_cl b
  have ha0 := sz_0 (cl a)
  have hb0 := sz_0 (cl b)
  have hX0 : 0 ≤ sz (cl a) * sz (cl b) := Int.mul_nonneg ha0 hb0
  have hX1 : sz (cl a) * sz (cl b) ≤ 70368744177664 * 70368744177664 := Int.mul_le_mul ha hb hb0 (by omega)
  unfold qfix_Mul.f
  rw [both_f]
  simp only [Option.bind_some]
  have c1 := cl_lo a
  have c2 := cl_hi a
  have c3 := cl_lo b
  have c4 := cl_hi b
  rw [size_f _ (by omega) (by omega), size_f _ (by omega) (by omega)]
  simp only [Option.bind_some]
  unfold bits_Mul64.f
  rw [if_pos ⟨ha0, by omega, hb0, by omega⟩]
  simp only [Option.bind_some]
  generalize ((decide (cl a < 0)) != (decide (cl b < 0))) = s
  generalize (od a || od b) = o
  generalize sz (cl a) * sz (cl b) = X at *
  rw [mask24 _ (by omega) (by omega), u64_wrap (X / _ * _)]
  have e1 : Go.bits .or .u64 (X % 18446744073709551616 / 16777216) (X / 18446744073709551616 * 1099511627776 % 18446744073709551616) = (X / 16777216) % 18446744073709551616 := by
    rw [or40 _ _ (by omega) (by omega) (by omega) (by omega) (by omega)]
    omega
  rw [e1, mask1 _ (by omega) (by omega), u64_wrap]
  have e2 : X % 18446744073709551616 % 16777216 = X % 16777216 := by omega
  have e3 : X / 18446744073709551616 / 16777216 = X / 309485009821345068724781056 := by omega
  rw [e2, e3]
  have k0 : 0 ≤ lw X := by unfold lw; simp only []; repeat' split <;> omega
  rw [show (some (flag o (sg (X / 309485009821345068724781056) (lw X) s))) = (qfix_signed.f (X / 309485009821345068724781056) (lw X) s).bind fun bt => (if o = true then (some (bt.1, true)) else (some (bt.1, bt.2))) from by
    rw [signed_f _ _ _ k0]; simp only [Option.bind_some]; rw [flag_some]]
  unfold lw
  simp only []
  split
  · rfl
  · split
    · split <;> rfl
    · rfl
end Go.Proofs.Ytninmcmajbfccaa.PQ

/- Plain laws of layer 1: the long division of bits.Div64. -/
namespace Go.Proofs.Ytninmcmajbfccaa.PQ
open Go.RowKit Go.Proofs.YtninmcmajbfccaaW.PrintWords Go.Proofs.YtninmcmajbfccaaW.PrintLast Go.Proofs.YtninmcmajbfccaaW.PrintMore

theorem mask32 (x : Int) (h0 : 0 ≤ x) (h1 : x < 18446744073709551616) : Go.bits .and .u64 x 4294967295 = x % 4294967296 :=
  bits_mask .u64 64 (by decide) wraps_u64 32 (by decide) x h0 h1
section
variable {n1 n0 D U u q r : Int}
theorem digit_no (hD : D = n1 * 4294967296 + n0) (hp : 0 < D) (e : q * n1 + r = U) (h : q * n0 ≤ 4294967296 * r + u) : q ≤ (U * 4294967296 + u) / D := by
  refine Int.le_ediv_of_mul_le hp ?_
  rw [hD, Int.mul_add, ← Int.mul_assoc]
  omega
theorem digit_top (hp : 0 < D) (hU : U < D) (hu : u < 4294967296) : (U * 4294967296 + u) / D < 4294967296 := by
  refine Int.ediv_lt_of_lt_mul hp ?_
  omega
theorem digit_yes (hD : D = n1 * 4294967296 + n0) (hp : 0 < D) (e : q * n1 + r = U) (h : 4294967296 * r + u < q * n0) : (U * 4294967296 + u) / D < q := by
  refine Int.ediv_lt_of_lt_mul hp ?_
  rw [hD, Int.mul_add, ← Int.mul_assoc]
  omega
theorem digit_out (hD : D = n1 * 4294967296 + n0) (hp : 0 < D) (h0 : 0 ≤ n0) (h0' : n0 < 4294967296) (hu0 : 0 ≤ u) (e : q * n1 + r = U) (hq0 : 1 ≤ q) (hq : q ≤ 4294967297) (h : 4294967296 ≤ r + n1) :
    q - 1 ≤ (U * 4294967296 + u) / D := by
  refine Int.le_ediv_of_mul_le hp ?_
  have h1 : (q - 1) * n0 ≤ 4294967296 * 4294967295 := Int.mul_le_mul (by omega) (by omega) h0 (by omega)
  rw [hD, Int.mul_add, ← Int.mul_assoc, Int.sub_mul q 1 n1]
  omega
theorem digit_first (hD : D = n1 * 4294967296 + n0) (h1 : 2147483648 ≤ n1) (h0 : 0 ≤ n0) (h0' : n0 < 4294967296) (hU0 : 0 ≤ U) (hU : U < D) (hu0 : 0 ≤ u) (hu : u < 4294967296) :
    (U * 4294967296 + u) / D ≤ U / n1 ∧ U / n1 ≤ 4294967297 := by
  constructor
  · refine Int.le_ediv_of_mul_le (by omega) ?_
    have hp : 0 < D := by omega
    have h := Int.ediv_mul_le (U * 4294967296 + u) (b := D) (by omega)
    have hq0 : 0 ≤ (U * 4294967296 + u) / D := Int.ediv_nonneg (by omega) (by omega)
    generalize (U * 4294967296 + u) / D = Q at *
    have hn : 0 ≤ Q * n0 := Int.mul_nonneg hq0 h0
    rw [hD, Int.mul_add, ← Int.mul_assoc] at h
    omega
  · have := Int.ediv_lt_of_lt_mul (a := U) (b := 4294967298) (c := n1) (by omega) (by omega)
    omega
end

theorem mulw {a b : Int} (ha0 : 0 ≤ a) (ha : a < 4294967296) (hb0 : 0 ≤ b) (hb : b < 4294967296) : 0 ≤ a * b ∧ a * b < 18446744073709551616 := by
  have h1 : a * b ≤ 4294967295 * 4294967295 := Int.mul_le_mul (by omega) (by omega) hb0 (by omega)
  have h2 := Int.mul_nonneg ha0 hb0
  omega

theorem loop0 {n1 n0 D U u : Int} (hD : D = n1 * 4294967296 + n0) (h1 : 2147483648 ≤ n1) (h1' : n1 < 4294967296) (h0 : 0 ≤ n0) (h0' : n0 < 4294967296) (hU0 : 0 ≤ U) (hU : U < D) (hu0 : 0 ≤ u) (hu : u < 4294967296) (x8 x14 : Int) (res : Int × Int)
    (hres : Ev (fun k => bits_Div64.j2 k D x8 n1 n0 U u x14 ((U * 4294967296 + u) / D)) res) :
    ∀ (d : Nat) (q r : Int), q * n1 + r = U → 0 ≤ r → r < 4294967296 → (U * 4294967296 + u) / D ≤ q → q ≤ 4294967297 → q - (U * 4294967296 + u) / D = d → Ev (fun k => bits_Div64.l0 k D x8 n1 n0 U u x14 q r) res := by
  have hp : 0 < D := by omega
  have hQ0 : 0 ≤ (U * 4294967296 + u) / D := Int.ediv_nonneg (by omega) (by omega)
  have hQt := digit_top hp hU hu
  have hmore : ∀ (q r : Int), q * n1 + r = U → 0 ≤ r → r < 4294967296 → (U * 4294967296 + u) / D < q → q ≤ 4294967297 →
      (∀ r', (q - 1) * n1 + r' = U → 0 ≤ r' → r' < 4294967296 → Ev (fun k => bits_Div64.l0 k D x8 n1 n0 U u x14 (q - 1) r') res) → Ev (fun k => bits_Div64.j1 k D x8 n1 n0 U u x14 q r true) res := by
    intro q r e hr0 hr hlt hq ih
    have w1 : IntKind.u64.wrap (r + n1) = r + n1 := wraps_u64 _ (by omega) (by omega)
    have w2 : IntKind.u64.wrap (q - 1) = q - 1 := wraps_u64 _ (by omega) (by omega)
    by_cases hb : r + n1 ≥ 4294967296
    · refine Ev.step (f := fun k => bits_Div64.j2 k D x8 n1 n0 U u x14 (q - 1)) ?_ ?_
      · intro k
        simp only [bits_Div64.j1, if_true]
        rw [w1, if_pos hb, w2]
      · have := digit_out hD hp h0 h0' hu0 e (by omega) hq hb
        rw [show q - 1 = (U * 4294967296 + u) / D by omega]
        exact hres
    · refine Ev.step (f := fun k => bits_Div64.l0 k D x8 n1 n0 U u x14 (q - 1) (r + n1)) ?_ (ih (r + n1) (by rw [Int.sub_mul]; omega) (by omega) (by omega))
      intro k
      simp only [bits_Div64.j1, if_true]
      rw [w1, if_neg hb, w2]
  intro d
  induction d with
  | zero =>
    intro q r e hr0 hr hle hq hd
    have hq' : q = (U * 4294967296 + u) / D := by omega
    have hq4 : q < 4294967296 := by omega
    have hn : ¬ (4294967296 * r + u < q * n0) := fun h => by
      have := digit_yes hD hp e h
      omega
    have hm := mulw (a := q) (b := n0) (by omega) hq4 h0 h0'
    refine Ev.step (f := fun k => bits_Div64.j1 k D x8 n1 n0 U u x14 q r false) ?_ (Ev.step (f := fun k => bits_Div64.j2 k D x8 n1 n0 U u x14 q) ?_ (by rw [hq']; exact hres))
    · intro k
      simp only [bits_Div64.l0]
      rw [if_neg (by omega), wraps_u64 (q * n0) (by omega) (by omega), wraps_u64 (4294967296 * r) (by omega) (by omega), wraps_u64 (4294967296 * r + u) (by omega) (by omega), decide_eq_false (by omega)]
    · intro k
      simp [bits_Div64.j1]
  | succ d ih =>
    intro q r e hr0 hr hle hq hd
    have hlt : (U * 4294967296 + u) / D < q := by omega
    have hy : q < 4294967296 → 4294967296 * r + u < q * n0 := fun _ => by
      rcases Int.lt_or_le (4294967296 * r + u) (q * n0) with h | h
      · exact h
      · have := digit_no hD hp e h
        omega
    refine Ev.step (f := fun k => bits_Div64.j1 k D x8 n1 n0 U u x14 q r true) ?_ (hmore q r e hr0 hr hlt hq fun r' e' a b => ih (q - 1) r' e' a b (by omega) (by omega) (by omega))
    intro k
    simp only [bits_Div64.l0]
    by_cases hq4 : q ≥ 4294967296
    · rw [if_pos hq4]
    · have hm := mulw (a := q) (b := n0) (by omega) (by omega) h0 h0'
      have := hy (by omega)
      rw [if_neg hq4, wraps_u64 (q * n0) (by omega) (by omega), wraps_u64 (4294967296 * r) (by omega) (by omega), wraps_u64 (4294967296 * r + u) (by omega) (by omega), decide_eq_true (by omega)]

theorem loop1 {n1 n0 D U u : Int} (hD : D = n1 * 4294967296 + n0) (h1 : 2147483648 ≤ n1) (h1' : n1 < 4294967296) (h0 : 0 ≤ n0) (h0' : n0 < 4294967296) (hU0 : 0 ≤ U) (hU : U < D) (hu0 : 0 ≤ u) (hu : u < 4294967296) (x8 x15 : Int) (h8 : 0 ≤ x8) :
    ∀ (d : Nat) (q r : Int), q * n1 + r = U → 0 ≤ r → r < 4294967296 → (U * 4294967296 + u) / D ≤ q → q ≤ 4294967297 → q - (U * 4294967296 + u) / D = d →
      Ev (fun k => bits_Div64.l1 k D x8 n1 n0 u x15 r U q) (IntKind.u64.wrap (IntKind.u64.wrap (x15 * 4294967296) + (U * 4294967296 + u) / D),
        shr .u64 (IntKind.u64.wrap (IntKind.u64.wrap (IntKind.u64.wrap (U * 4294967296) + u) - IntKind.u64.wrap ((U * 4294967296 + u) / D * D))) x8) := by
  have hp : 0 < D := by omega
  have hQ0 : 0 ≤ (U * 4294967296 + u) / D := Int.ediv_nonneg (by omega) (by omega)
  have hQt := digit_top hp hU hu
  have hmore : ∀ (res : Int × Int), res = (IntKind.u64.wrap (IntKind.u64.wrap (x15 * 4294967296) + (U * 4294967296 + u) / D), shr .u64 (IntKind.u64.wrap (IntKind.u64.wrap (IntKind.u64.wrap (U * 4294967296) + u) - IntKind.u64.wrap ((U * 4294967296 + u) / D * D))) x8) →
      ∀ (q r : Int), q * n1 + r = U → 0 ≤ r → r < 4294967296 → (U * 4294967296 + u) / D < q → q ≤ 4294967297 →
      (∀ r', (q - 1) * n1 + r' = U → 0 ≤ r' → r' < 4294967296 → Ev (fun k => bits_Div64.l1 k D x8 n1 n0 u x15 r' U (q - 1)) res) → Ev (fun k => bits_Div64.j4 k D x8 n1 n0 u x15 r U q true) res := by
    intro res hres q r e hr0 hr hlt hq ih
    have w1 : IntKind.u64.wrap (r + n1) = r + n1 := wraps_u64 _ (by omega) (by omega)
    have w2 : IntKind.u64.wrap (q - 1) = q - 1 := wraps_u64 _ (by omega) (by omega)
    by_cases hb : r + n1 ≥ 4294967296
    · refine Ev.step (f := fun _ => some res) ?_ (Ev.now _)
      intro k
      have := digit_out hD hp h0 h0' hu0 e (by omega) hq hb
      have hqe : q - 1 = (U * 4294967296 + u) / D := by omega
      simp only [bits_Div64.j4, if_true]
      rw [w1, if_pos hb, w2, if_pos h8, hqe, hres]
    · refine Ev.step (f := fun k => bits_Div64.l1 k D x8 n1 n0 u x15 (r + n1) U (q - 1)) ?_ (ih (r + n1) (by rw [Int.sub_mul]; omega) (by omega) (by omega))
      intro k
      simp only [bits_Div64.j4, if_true]
      rw [w1, if_neg hb, w2]
  intro d
  induction d with
  | zero =>
    intro q r e hr0 hr hle hq hd
    have hq' : q = (U * 4294967296 + u) / D := by omega
    have hq4 : q < 4294967296 := by omega
    have hn : ¬ (4294967296 * r + u < q * n0) := fun h => by
      have := digit_yes hD hp e h
      omega
    have hm := mulw (a := q) (b := n0) (by omega) hq4 h0 h0'
    rw [← hq']
    refine Ev.step (f := fun k => bits_Div64.j4 k D x8 n1 n0 u x15 r U q false) ?_ (Ev.step (f := fun _ => some (_, _)) ?_ (Ev.now _))
    · intro k
      simp only [bits_Div64.l1]
      rw [if_neg (by omega), wraps_u64 (q * n0) (by omega) (by omega), wraps_u64 (4294967296 * r) (by omega) (by omega), wraps_u64 (4294967296 * r + u) (by omega) (by omega), decide_eq_false (by omega)]
    · intro k
      simp only [bits_Div64.j4, Bool.false_eq_true, if_false]
      rw [if_pos h8]
  | succ d ih =>
    intro q r e hr0 hr hle hq hd
    have hlt : (U * 4294967296 + u) / D < q := by omega
    have hy : q < 4294967296 → 4294967296 * r + u < q * n0 := fun _ => by
      rcases Int.lt_or_le (4294967296 * r + u) (q * n0) with h | h
      · exact h
      · have := digit_no hD hp e h
        omega
    refine Ev.step (f := fun k => bits_Div64.j4 k D x8 n1 n0 u x15 r U q true) ?_ (hmore _ rfl q r e hr0 hr hlt hq fun r' e' a b => ih (q - 1) r' e' a b (by omega) (by omega) (by omega))
    intro k
    simp only [bits_Div64.l1]
    by_cases hq4 : q ≥ 4294967296
    · rw [if_pos hq4]
    · have hm := mulw (a := q) (b := n0) (by omega) (by omega) h0 h0'
      have := hy (by omega)
      rw [if_neg hq4, wraps_u64 (q * n0) (by omega) (by omega), wraps_u64 (4294967296 * r) (by omega) (by omega), wraps_u64 (4294967296 * r + u) (by omega) (by omega), decide_eq_true (by omega)]
end Go.Proofs.Ytninmcmajbfccaa.PQ

/- Plain laws of layer 1: bits.Div64 is the quotient and the rest; what qfix.Div comes to. -/
namespace Go.Proofs.Ytninmcmajbfccaa.PQ
open Go.RowKit Go.Proofs.YtninmcmajbfccaaW.PrintWords Go.Proofs.YtninmcmajbfccaaW.PrintLast Go.Proofs.YtninmcmajbfccaaW.PrintMore

theorem lenAux_zero (f : Nat) : Lib.bitLenAux f 0 = 0 := by cases f <;> simp [Lib.bitLenAux]
theorem lenAux_bounds : ∀ (f x : Nat), x < 2 ^ f → x < 2 ^ Lib.bitLenAux f x ∧ (x ≠ 0 → 2 ^ Lib.bitLenAux f x ≤ 2 * x)
  | 0, x, h => by simp at h; subst h; simp [Lib.bitLenAux]
  | f + 1, x, h => by
    by_cases hx : x = 0
    · subst hx
      rw [lenAux_zero]
      simp
    · obtain ⟨h1, h2⟩ := lenAux_bounds f (x / 2) (by rw [Nat.pow_succ] at h; omega)
      simp only [Lib.bitLenAux, if_neg hx]
      rw [Nat.pow_add]
      generalize hA : 2 ^ Lib.bitLenAux f (x / 2) = A at *
      refine ⟨by omega, fun _ => ?_⟩
      by_cases h0 : x / 2 = 0
      · have : x = 1 := by omega
        subst this
        rw [h0, lenAux_zero] at hA
        simp at hA
        omega
      · have := h2 h0
        omega
theorem pow_int (n : Nat) : ((2 ^ n : Nat) : Int) = (2 : Int) ^ n := by simp
theorem norm_y (y : Int) (h0 : 0 < y) (h1 : y < 18446744073709551616) :
    ∃ s : Nat, s ≤ 63 ∧ bits_LeadingZeros64.f y = some (s : Int) ∧ 9223372036854775808 ≤ y * 2 ^ s ∧ y * 2 ^ s < 18446744073709551616 := by
  obtain ⟨n, rfl⟩ := Int.eq_ofNat_of_zero_le (Int.le_of_lt h0)
  have hb := lenAux_bounds 64 n (by omega)
  have hle : Lib.bitLen n ≤ 64 := Lib.bitLen_le n 64 (by decide) (by omega)
  have hn0 : n ≠ 0 := by omega
  have hb2 := hb.2 hn0
  have hb1 := hb.1
  change n < 2 ^ Lib.bitLen n at hb1
  change 2 ^ Lib.bitLen n ≤ 2 * n at hb2
  have hpos : 1 ≤ Lib.bitLen n := by
    rcases Nat.eq_zero_or_pos (Lib.bitLen n) with h | h
    · rw [h] at hb1
      omega
    · exact h
  have hp : 2 ^ Lib.bitLen n * 2 ^ (64 - Lib.bitLen n) = 18446744073709551616 := by
    rw [← Nat.pow_add, show Lib.bitLen n + (64 - Lib.bitLen n) = 64 by omega]
  have hP : 0 < 2 ^ (64 - Lib.bitLen n) := Nat.two_pow_pos _
  have e1 := Nat.mul_le_mul_right (2 ^ (64 - Lib.bitLen n)) hb2
  have e2 := Nat.mul_lt_mul_of_pos_right hb1 hP
  rw [Nat.mul_assoc] at e1
  refine ⟨64 - Lib.bitLen n, by omega, ?_, ?_, ?_⟩
  · unfold bits_LeadingZeros64.f
    rw [if_pos ⟨by omega, by omega⟩]
    simp
    omega
  · rw [← pow_int, ← Int.natCast_mul]
    omega
  · rw [← pow_int, ← Int.natCast_mul]
    omega

theorem div64_one (hi lo y : Int) (h0 : 0 ≤ hi) (h1 : hi < y) (hy : y < 18446744073709551616) (hl0 : 0 ≤ lo) (hl1 : lo < 18446744073709551616) (hne : hi ≠ 0) :
    Ev (fun k => bits_Div64.f k hi lo y) ((hi * 18446744073709551616 + lo) / y, (hi * 18446744073709551616 + lo) % y) := by
  obtain ⟨s, hs, hlz, hD1, hD2⟩ := norm_y y (by omega) hy
  have hP : (0 : Int) < 2 ^ s := by rw [← pow_int]; have := Nat.two_pow_pos s; omega
  have hR : (0 : Int) < 2 ^ (64 - s) := by rw [← pow_int]; have := Nat.two_pow_pos (64 - s); omega
  have hPR : (2 : Int) ^ (64 - s) * 2 ^ s = 18446744073709551616 := by
    rw [← Int.pow_add, show 64 - s + s = 64 by omega]; rfl
  have hS : shl .u64 y s = y * 2 ^ s := by
    unfold shl
    rw [show min (s : Int).toNat IntKind.u64.bits = s by simp [IntKind.bits]; omega, u64_wrap, Int.emod_eq_of_lt (by omega) (by omega)]
  have hhi : hi * 2 ^ s + 2 ^ s ≤ y * 2 ^ s := by
    have := Int.mul_le_mul_of_nonneg_right (show hi + 1 ≤ y by omega) (Int.le_of_lt hP)
    rw [Int.add_mul] at this
    omega
  have hhi0 : 0 ≤ hi * 2 ^ s := Int.mul_nonneg h0 (Int.le_of_lt hP)
  have hS2 : shl .u64 hi s = hi * 2 ^ s := by
    unfold shl
    rw [show min (s : Int).toNat IntKind.u64.bits = s by simp [IntKind.bits]; omega, u64_wrap, Int.emod_eq_of_lt (by omega) (by omega)]
  have hT : IntKind.u64.wrap (64 - (s : Int)) = ((64 - s : Nat) : Int) := by rw [u64_wrap]; omega
  have hS3 : shr .u64 lo ((64 - s : Nat) : Int) = lo / 2 ^ (64 - s) := by
    unfold shr
    rw [show min ((64 - s : Nat) : Int).toNat IntKind.u64.bits = 64 - s by simp [IntKind.bits]]
  have ha := Int.mul_ediv_add_emod lo (2 ^ (64 - s))
  have hb0 := Int.emod_nonneg lo (Int.ne_of_gt hR)
  have hb1 := Int.emod_lt_of_pos lo hR
  have ha0 : 0 ≤ lo / 2 ^ (64 - s) := Int.ediv_nonneg hl0 (Int.le_of_lt hR)
  have ha1 : lo / 2 ^ (64 - s) < 2 ^ s := Int.ediv_lt_of_lt_mul hR (by rw [Int.mul_comm, hPR]; exact hl1)
  have hL : lo * 2 ^ s = lo / 2 ^ (64 - s) * 18446744073709551616 + lo % 2 ^ (64 - s) * 2 ^ s := by
    have e : (2 ^ (64 - s) * (lo / 2 ^ (64 - s)) + lo % 2 ^ (64 - s)) * 2 ^ s = lo * 2 ^ s := by rw [ha]
    rw [Int.add_mul, Int.mul_comm (2 ^ (64 - s)) (lo / _), Int.mul_assoc, hPR] at e
    exact e.symm
  have hbP0 : 0 ≤ lo % 2 ^ (64 - s) * 2 ^ s := Int.mul_nonneg hb0 (Int.le_of_lt hP)
  have hbP1 : lo % 2 ^ (64 - s) * 2 ^ s < 18446744073709551616 := by
    rw [← hPR]
    exact Int.mul_lt_mul_of_pos_right hb1 hP
  have hS4 : shl .u64 lo s = lo % 2 ^ (64 - s) * 2 ^ s := by
    unfold shl
    rw [show min (s : Int).toNat IntKind.u64.bits = s by simp [IntKind.bits]; omega, u64_wrap, hL]
    omega
  have hor : Go.bits .or .u64 (hi * 2 ^ s) (lo / 2 ^ (64 - s)) = hi * 2 ^ s + lo / 2 ^ (64 - s) := by
    refine bits_join .u64 64 (by decide) wraps_u64 s _ _ hhi0 (Int.mul_emod_left _ _) (by omega) ha0 ha1 (by omega)
  have hN : (hi * 18446744073709551616 + lo) * 2 ^ s = (hi * 2 ^ s + lo / 2 ^ (64 - s)) * 18446744073709551616 + lo % 2 ^ (64 - s) * 2 ^ s := by
    rw [Int.add_mul, hL, Int.mul_assoc, Int.mul_comm 18446744073709551616 (2 ^ s), ← Int.mul_assoc, Int.add_mul]
    omega
  have hz : (y * 2 ^ s) / 4294967296 ≠ 0 := by omega
  have hres : ∀ D U L : Int, D = y * 2 ^ s → U = hi * 2 ^ s + lo / 2 ^ (64 - s) → L = lo % 2 ^ (64 - s) * 2 ^ s →
      Ev (fun k => bits_Div64.l0 k D s (D / 4294967296) (D % 4294967296) U (L / 4294967296) (L % 4294967296) (U / (D / 4294967296)) (U - U / (D / 4294967296) * (D / 4294967296)))
        ((hi * 18446744073709551616 + lo) / y, (hi * 18446744073709551616 + lo) % y) := by
    intro D U L eD eU eL
    rw [← eU, ← eL] at hN
    have hU0 : 0 ≤ U := by omega
    have hUD : U < D := by omega
    have hD : D = D / 4294967296 * 4294967296 + D % 4294967296 := by omega
    have hDB : D < 18446744073709551616 := by omega
    have hDp : 0 < D := by omega
    have hr0 := Int.emod_nonneg U (show D / 4294967296 ≠ 0 by omega)
    have hr1 := Int.emod_lt_of_pos U (show 0 < D / 4294967296 by omega)
    have hre := Int.ediv_mul_add_emod U (D / 4294967296)
    have hf := digit_first (u := L / 4294967296) hD (by omega) (by omega) (by omega) hU0 hUD (by omega) (by omega)
    refine loop0 hD (by omega) (by omega) (by omega) (by omega) hU0 hUD (by omega) (by omega) s (L % 4294967296) _ ?_ ((U / (D / 4294967296) - (U * 4294967296 + L / 4294967296) / D).toNat) _ _ (by omega) (by omega) (by omega) hf.1 hf.2 (by omega)
    have hm1 := Int.ediv_mul_add_emod (U * 4294967296 + L / 4294967296) D
    have hm2 := Int.emod_nonneg (U * 4294967296 + L / 4294967296) (show D ≠ 0 by omega)
    have hm3 := Int.emod_lt_of_pos (U * 4294967296 + L / 4294967296) hDp
    have hq1 := digit_top hDp hUD (show L / 4294967296 < 4294967296 by omega)
    have hq0 : 0 ≤ (U * 4294967296 + L / 4294967296) / D := Int.ediv_nonneg (by omega) (by omega)
    generalize (U * 4294967296 + L / 4294967296) / D = Q1 at *
    generalize hR1 : (U * 4294967296 + L / 4294967296) % D = R1 at *
    have hw : IntKind.u64.wrap (IntKind.u64.wrap (IntKind.u64.wrap (U * 4294967296) + L / 4294967296) - IntKind.u64.wrap (Q1 * D)) = R1 := by
      rw [u64_wrap, u64_wrap, u64_wrap, u64_wrap]
      omega
    have hR1a := Int.emod_nonneg R1 (show D / 4294967296 ≠ 0 by omega)
    have hR1b := Int.emod_lt_of_pos R1 (show 0 < D / 4294967296 by omega)
    have hR1c := Int.ediv_mul_add_emod R1 (D / 4294967296)
    have hd1 : IntKind.u64.wrap (Int.tdiv R1 (D / 4294967296)) = R1 / (D / 4294967296) := by
      rw [Int.tdiv_eq_ediv_of_nonneg hm2]
      refine wraps_u64 _ (Int.ediv_nonneg hm2 (by omega)) ?_
      have := Int.ediv_le_self (a := R1) (D / 4294967296) hm2
      omega
    have hf2 := digit_first (u := L % 4294967296) hD (by omega) (by omega) (by omega) hm2 hm3 (by omega) (by omega)
    refine Ev.step (f := fun k => bits_Div64.l1 k D s (D / 4294967296) (D % 4294967296) (L % 4294967296) Q1 (R1 - R1 / (D / 4294967296) * (D / 4294967296)) R1 (R1 / (D / 4294967296))) ?_ ?_
    · intro k
      simp only [bits_Div64.j2]
      rw [if_neg (by omega), hw, hd1]
      congr 1
      have hmul : R1 / (D / 4294967296) * (D / 4294967296) ≤ R1 := by omega
      have hmul0 : 0 ≤ R1 / (D / 4294967296) * (D / 4294967296) := Int.mul_nonneg (Int.ediv_nonneg hm2 (by omega)) (by omega)
      generalize R1 / (D / 4294967296) * (D / 4294967296) = Z at *
      rw [u64_wrap, u64_wrap]
      omega
    · have hl := loop1 hD (by omega) (by omega) (by omega) (by omega) hm2 hm3 (show 0 ≤ L % 4294967296 by omega) (by omega) s Q1 (by omega) ((R1 / (D / 4294967296) - (R1 * 4294967296 + L % 4294967296) / D).toNat) (R1 / (D / 4294967296)) (R1 - R1 / (D / 4294967296) * (D / 4294967296)) (by omega) (by omega) (by omega) hf2.1 hf2.2 (by omega)
      have hn1 := Int.ediv_mul_add_emod (R1 * 4294967296 + L % 4294967296) D
      have hn2 := Int.emod_nonneg (R1 * 4294967296 + L % 4294967296) (show D ≠ 0 by omega)
      have hn3 := Int.emod_lt_of_pos (R1 * 4294967296 + L % 4294967296) hDp
      have hp1 := digit_top hDp hm3 (show L % 4294967296 < 4294967296 by omega)
      have hp0 : 0 ≤ (R1 * 4294967296 + L % 4294967296) / D := Int.ediv_nonneg (by omega) (by omega)
      generalize (R1 * 4294967296 + L % 4294967296) / D = Q0 at *
      generalize (R1 * 4294967296 + L % 4294967296) % D = R0 at *
      have hw2 : IntKind.u64.wrap (IntKind.u64.wrap (IntKind.u64.wrap (R1 * 4294967296) + L % 4294967296) - IntKind.u64.wrap (Q0 * D)) = R0 := by
        rw [u64_wrap, u64_wrap, u64_wrap, u64_wrap]
        omega
      have hw3 : IntKind.u64.wrap (IntKind.u64.wrap (Q1 * 4294967296) + Q0) = Q1 * 4294967296 + Q0 := by
        rw [u64_wrap, u64_wrap]
        omega
      rw [hw2, hw3] at hl
      have hsr : shr .u64 R0 s = R0 / 2 ^ s := by
        unfold shr
        rw [show min (s : Int).toNat IntKind.u64.bits = s by simp [IntKind.bits]; omega]
      rw [hsr] at hl
      have hfin : (hi * 18446744073709551616 + lo) * 2 ^ s = (Q1 * 4294967296 + Q0) * D + R0 := by
        have e : (Q1 * 4294967296 + Q0) * D = Q1 * D * 4294967296 + Q0 * D := by
          rw [Int.add_mul, Int.mul_assoc Q1, Int.mul_comm 4294967296 D, ← Int.mul_assoc]
        rw [hN, e]
        omega
      have hdm := Int.ediv_mul_add_emod (hi * 18446744073709551616 + lo) y
      have hdm0 := Int.emod_nonneg (hi * 18446744073709551616 + lo) (show y ≠ 0 by omega)
      have hdm1 := Int.emod_lt_of_pos (hi * 18446744073709551616 + lo) (show 0 < y by omega)
      generalize hi * 18446744073709551616 + lo = N at *
      -- both divide N * 2^s by D
      have e1 : (N / y) * D + (N % y) * 2 ^ s = (Q1 * 4294967296 + Q0) * D + R0 := by
        rw [← hfin, eD, ← Int.mul_assoc, ← Int.add_mul, hdm]
      have hx0 : 0 ≤ (N % y) * 2 ^ s := Int.mul_nonneg hdm0 (Int.le_of_lt hP)
      have hx1 : (N % y) * 2 ^ s < D := by rw [eD]; exact Int.mul_lt_mul_of_pos_right hdm1 hP
      have f1 : ((N / y) * D + (N % y) * 2 ^ s) / D = N / y := by
        rw [Int.add_comm, Int.add_mul_ediv_right _ _ (Int.ne_of_gt hDp), Int.ediv_eq_zero_of_lt hx0 hx1, Int.zero_add]
      have f2 : ((Q1 * 4294967296 + Q0) * D + R0) / D = Q1 * 4294967296 + Q0 := by
        rw [Int.add_comm, Int.add_mul_ediv_right _ _ (Int.ne_of_gt hDp), Int.ediv_eq_zero_of_lt hn2 hn3, Int.zero_add]
      have f3 : N / y = Q1 * 4294967296 + Q0 := by rw [← f1, e1, f2]
      rw [f3] at e1
      have f4 : R0 = (N % y) * 2 ^ s := by omega
      rw [f3, show N % y = R0 / 2 ^ s by rw [f4, Int.mul_ediv_cancel _ (Int.ne_of_gt hP)]]
      exact hl
  have hgo := hres _ _ _ rfl rfl rfl
  refine Ev.congr (f := fun k => bits_Div64.l0 k (y * 2 ^ s) s (y * 2 ^ s / 4294967296) (y * 2 ^ s % 4294967296) (hi * 2 ^ s + lo / 2 ^ (64 - s)) (lo % 2 ^ (64 - s) * 2 ^ s / 4294967296) (lo % 2 ^ (64 - s) * 2 ^ s % 4294967296) ((hi * 2 ^ s + lo / 2 ^ (64 - s)) / (y * 2 ^ s / 4294967296)) (hi * 2 ^ s + lo / 2 ^ (64 - s) - (hi * 2 ^ s + lo / 2 ^ (64 - s)) / (y * 2 ^ s / 4294967296) * (y * 2 ^ s / 4294967296))) ?_ hgo
  intro k
  unfold bits_Div64.f
  rw [if_neg (by omega), if_neg (by omega), if_neg hne, hlz]
  simp only [Option.bind_some]
  have hws : IntKind.u64.wrap (s : Int) = s := by rw [u64_wrap]; omega
  rw [hws, if_pos (by omega), hT, if_pos (by omega), hS, if_neg hz, hS2, hS3, hor, hS4]
  generalize eU : hi * 2 ^ s + lo / 2 ^ (64 - s) = U
  generalize eL : lo % 2 ^ (64 - s) * 2 ^ s = L at *
  generalize eD : y * 2 ^ s = D at *
  rw [mask32 _ (by omega) (by omega), mask32 _ (by omega) (by omega)]
  have hU0 : 0 ≤ U := by omega
  have hq0 : 0 ≤ U / (D / 4294967296) := Int.ediv_nonneg hU0 (by omega)
  have hq1 := Int.ediv_le_self (a := U) (D / 4294967296) hU0
  have hc := Int.ediv_mul_add_emod U (D / 4294967296)
  have hr0 := Int.emod_nonneg U (show D / 4294967296 ≠ 0 by omega)
  have hz0 : 0 ≤ U / (D / 4294967296) * (D / 4294967296) := Int.mul_nonneg hq0 (by omega)
  have hd1 : IntKind.u64.wrap (Int.tdiv U (D / 4294967296)) = U / (D / 4294967296) := by
    rw [Int.tdiv_eq_ediv_of_nonneg hU0]
    exact wraps_u64 _ hq0 (by omega)
  rw [hd1]
  congr 1
  generalize U / (D / 4294967296) * (D / 4294967296) = Z at *
  rw [u64_wrap, u64_wrap]
  omega

theorem div64 (hi lo y : Int) (h0 : 0 ≤ hi) (h1 : hi < y) (hy : y < 18446744073709551616) (hl0 : 0 ≤ lo) (hl1 : lo < 18446744073709551616) :
    Ev (fun k => bits_Div64.f k hi lo y) ((hi * 18446744073709551616 + lo) / y, (hi * 18446744073709551616 + lo) % y) := by
  by_cases hne : hi = 0
  · refine ⟨0, fun k _ => ?_⟩
    subst hne
    show bits_Div64.f k 0 lo y = _
    unfold bits_Div64.f
    rw [if_neg (by omega), if_neg (by omega), if_pos rfl, Int.zero_mul, Int.zero_add, Int.tdiv_eq_ediv_of_nonneg hl0, Int.tmod_eq_emod_of_nonneg hl0]
    have := Int.ediv_le_self (a := lo) y hl0
    rw [wraps_u64 _ (Int.ediv_nonneg hl0 (by omega)) (by omega)]
  · exact div64_one hi lo y h0 h1 hy hl0 hl1 hne
end Go.Proofs.Ytninmcmajbfccaa.PQ

/- Plain laws of layer 1: sums, quotients, roots; the document's example. -/
namespace Go.Proofs.Ytninmcmajbfccaa.PQ
open Go.RowKit Go.Proofs.YtninmcmajbfccaaW.PrintWords Go.Proofs.YtninmcmajbfccaaW.PrintLast Go.Proofs.YtninmcmajbfccaaW.PrintMore

theorem add_f (a b : Int) : qfix_Add.f a b = some (cl (cl a + cl b), (od a || od b) || od (cl a + cl b)) := by
  have := cl_lo a
  have := cl_hi a
  have := cl_lo b
  have := cl_hi b
  unfold qfix_Add.f
  rw [both_f]
  simp only [Option.bind_some]
  rw [w64 (by omega) (by omega), clamp_f]
  simp only [Option.bind_some]
  cases (od a || od b) <;> simp
theorem sub_f (a b : Int) : qfix_Sub.f a b = some (cl (cl a - cl b), (od a || od b) || od (cl a - cl b)) := by
  have := cl_lo a
  have := cl_hi a
  have := cl_lo b
  have := cl_hi b
  unfold qfix_Sub.f
  rw [both_f]
  simp only [Option.bind_some]
  rw [w64 (by omega) (by omega), clamp_f]
  simp only [Option.bind_some]
  cases (od a || od b) <;> simp
/-- a quotient, rounded -/
def rn (N y : Int) : Int := if N % y > y - N % y then (N / y + 1) % 18446744073709551616 else if N % y = y - N % y then (if N / y % 2 = 1 then (N / y + 1) % 18446744073709551616 else N / y) else N / y
def dvs (a b : Int) : Int × Bool :=
  if cl b = 0 then (if cl a > 0 then (70368744177663, true) else if cl a < 0 then (-70368744177664, true) else (0, true))
  else if sz (cl a) / 1099511627776 ≥ sz (cl b) then ((sg 1 0 ((decide (cl a < 0)) != (decide (cl b < 0)))).1, true)
  else flag (od a || od b) (sg 0 (rn (sz (cl a) * 16777216) (sz (cl b))) ((decide (cl a < 0)) != (decide (cl b < 0))))
theorem div_f (a b : Int) : Ev (fun k => qfix_Div.f k a b) (dvs a b) := by
  have c1 := cl_lo a
  have c2 := cl_hi a
  have c3 := cl_lo b
  have c4 := cl_hi b
  have ha := sz_cl a
  have hb := sz_cl b
  have ha0 := sz_0 (cl a)
  have hb0 := sz_0 (cl b)
  have hbz : cl b ≠ 0 → 0 < sz (cl b) := fun h => by unfold sz at *; split at hb0 <;> split <;> omega
  by_cases h0 : cl b = 0
  · refine Ev.congr (f := fun _ => some (dvs a b)) ?_ (Ev.now _)
    intro k
    unfold qfix_Div.f dvs
    rw [both_f]
    simp only [Option.bind_some]
    rw [if_pos h0, if_pos h0]
    repeat' split
    all_goals rfl
  · have hy := hbz h0
    by_cases h1 : sz (cl a) / 1099511627776 ≥ sz (cl b)
    · refine Ev.congr (f := fun _ => some (dvs a b)) ?_ (Ev.now _)
      intro k
      unfold qfix_Div.f dvs
      rw [both_f]
      simp only [Option.bind_some]
      rw [if_neg h0, if_neg h0, size_f _ (by omega) (by omega), size_f _ (by omega) (by omega)]
      simp only [Option.bind_some]
      rw [if_pos h1, if_pos h1, signed_f _ _ _ (by omega)]
      rfl
    · have hdv := div64 (sz (cl a) / 1099511627776) (IntKind.u64.wrap (sz (cl a) * 16777216)) (sz (cl b)) (by omega) (by omega) (by omega) (by rw [u64_wrap]; omega) (by rw [u64_wrap]; omega)
      have hN : sz (cl a) / 1099511627776 * 18446744073709551616 + IntKind.u64.wrap (sz (cl a) * 16777216) = sz (cl a) * 16777216 := by rw [u64_wrap]; omega
      rw [hN] at hdv
      obtain ⟨K, hK⟩ := hdv
      refine ⟨K, fun k hk => ?_⟩
      have hk' := hK k hk
      show qfix_Div.f k a b = _
      unfold qfix_Div.f dvs
      rw [both_f]
      simp only [Option.bind_some]
      rw [if_neg h0, if_neg h0, size_f _ (by omega) (by omega), size_f _ (by omega) (by omega)]
      simp only [Option.bind_some]
      rw [if_neg h1, if_neg h1]
      simp only [] at hk'
      rw [hk']
      simp only [Option.bind_some]
      generalize ((decide (cl a < 0)) != (decide (cl b < 0))) = s
      generalize (od a || od b) = o
      have hq0 : 0 ≤ sz (cl a) * 16777216 / sz (cl b) := Int.ediv_nonneg (by omega) (by omega)
      have hq1 : sz (cl a) * 16777216 / sz (cl b) < 18446744073709551616 := Int.ediv_lt_of_lt_mul hy (by omega)
      have hr0 := Int.emod_nonneg (sz (cl a) * 16777216) (show sz (cl b) ≠ 0 by omega)
      have hr1 := Int.emod_lt_of_pos (sz (cl a) * 16777216) hy
      rw [mask1 _ hq0 hq1, wraps_u64 (sz (cl b) - _) (by omega) (by omega), u64_wrap]
      have k0 : 0 ≤ rn (sz (cl a) * 16777216) (sz (cl b)) := by unfold rn; repeat' split <;> omega
      rw [show (some (flag o (sg 0 (rn (sz (cl a) * 16777216) (sz (cl b))) s))) = (qfix_signed.f 0 (rn (sz (cl a) * 16777216) (sz (cl b))) s).bind fun bt => (if o = true then (some (bt.1, true)) else (some (bt.1, bt.2))) from by
        rw [signed_f _ _ _ k0]; simp only [Option.bind_some]; rw [flag_some]]
      unfold rn
      split
      · rfl
      · split
        · split <;> rfl
        · rfl

theorem in_f (a : Int) : alidaderef01_In.f a = some (decide (-70368744177664 ≤ a ∧ a ≤ 70368744177663)) := by
  unfold alidaderef01_In.f
  by_cases h : a ≥ -70368744177664
  · rw [if_pos h]
    congr 1
    rw [decide_eq_decide]
    omega
  · rw [if_neg h]
    congr 1
    symm
    simp
    omega
end Go.Proofs.Ytninmcmajbfccaa.PQ

-- Laid by a program of this session's own (wip/print-patch.py over the kit's print), out of the translation; Lean checks it.
namespace Go.Proofs.Ytninmcmajbfccaa.PQ
open Go.RowKit Go.Proofs.YtninmcmajbfccaaW.PrintWords Go.Proofs.YtninmcmajbfccaaW.PrintLast Go.Proofs.YtninmcmajbfccaaW.PrintMore
attribute [local go_sem] max2_int min2_int max_two min_two max_three min_three max_four min_four   -- for this text's walks alone
set_option linter.unusedVariables false
set_option linter.unusedSimpArgs false

attribute [local go_sem high] eqA99
/-! ### qfix_Half: function 74 -/
def qfix_Half.f (a0 : Int) (a1 : Int) : Option (Int) := if (mn (mx a1 0) 62) > 0 then (if 0 ≤ ((mn (mx a1 0) 62) - 1) then (if (Go.bits .and .u64 (IntKind.u64.wrap (a0)) (IntKind.u64.wrap ((IntKind.u64.wrap (2 ^ (mn (mx a1 0) 62).toNat)) - 1))) > (IntKind.u64.wrap (2 ^ ((mn (mx a1 0) 62) - 1).toNat)) then (some (wrap64 ((a0 / 2 ^ (mn (mx a1 0) 62).toNat) + 1))) else (if (Go.bits .and .u64 (IntKind.u64.wrap (a0)) (IntKind.u64.wrap ((IntKind.u64.wrap (2 ^ (mn (mx a1 0) 62).toNat)) - 1))) = (IntKind.u64.wrap (2 ^ ((mn (mx a1 0) 62) - 1).toNat)) then (if (Go.bits .and .i64 (a0 / 2 ^ (mn (mx a1 0) 62).toNat) 1) = 1 then (some (wrap64 ((a0 / 2 ^ (mn (mx a1 0) 62).toNat) + 1))) else (some (a0 / 2 ^ (mn (mx a1 0) 62).toNat))) else (some (a0 / 2 ^ (mn (mx a1 0) 62).toNat)))) else (none)) else (some (a0 / 2 ^ (mn (mx a1 0) 62).toNat))
set_option maxHeartbeats 8000000 in
set_option maxRecDepth 100000 in
theorem qfix_Half.calls (a0 : Int) (a1 : Int) (r : Int) (w : World) (h : qfix_Half.f a0 a1 = some r) :
    Calls Try.prog 74 #[.int .i64 a0, .int .i64 a1] w fun e w' => e = .returned (.int .i64 r) ∧ Below w.heap.size w w' := by
  have HB := Aside0.mk (Below.refl w.heap.size w)
  have H : (if (mn (mx a1 0) 62) > 0 then (if 0 ≤ ((mn (mx a1 0) 62) - 1) then (if (Go.bits .and .u64 (IntKind.u64.wrap (a0)) (IntKind.u64.wrap ((IntKind.u64.wrap (2 ^ (mn (mx a1 0) 62).toNat)) - 1))) > (IntKind.u64.wrap (2 ^ ((mn (mx a1 0) 62) - 1).toNat)) then (some (wrap64 ((a0 / 2 ^ (mn (mx a1 0) 62).toNat) + 1))) else (if (Go.bits .and .u64 (IntKind.u64.wrap (a0)) (IntKind.u64.wrap ((IntKind.u64.wrap (2 ^ (mn (mx a1 0) 62).toNat)) - 1))) = (IntKind.u64.wrap (2 ^ ((mn (mx a1 0) 62) - 1).toNat)) then (if (Go.bits .and .i64 (a0 / 2 ^ (mn (mx a1 0) 62).toNat) 1) = 1 then (some (wrap64 ((a0 / 2 ^ (mn (mx a1 0) 62).toNat) + 1))) else (some (a0 / 2 ^ (mn (mx a1 0) 62).toNat))) else (some (a0 / 2 ^ (mn (mx a1 0) 62).toNat)))) else (none)) else (some (a0 / 2 ^ (mn (mx a1 0) 62).toNat))) = some r := h
  clear h
  obtain ⟨ji3, hji3⟩ : ∃ j_ : Int, (mx a1 0) = j_ := ⟨_, rfl⟩
  replace H : (if (mn (ji3) 62) > 0 then (if 0 ≤ ((mn (ji3) 62) - 1) then (if (Go.bits .and .u64 (IntKind.u64.wrap (a0)) (IntKind.u64.wrap ((IntKind.u64.wrap (2 ^ (mn (ji3) 62).toNat)) - 1))) > (IntKind.u64.wrap (2 ^ ((mn (ji3) 62) - 1).toNat)) then (some (wrap64 ((a0 / 2 ^ (mn (ji3) 62).toNat) + 1))) else (if (Go.bits .and .u64 (IntKind.u64.wrap (a0)) (IntKind.u64.wrap ((IntKind.u64.wrap (2 ^ (mn (ji3) 62).toNat)) - 1))) = (IntKind.u64.wrap (2 ^ ((mn (ji3) 62) - 1).toNat)) then (if (Go.bits .and .i64 (a0 / 2 ^ (mn (ji3) 62).toNat) 1) = 1 then (some (wrap64 ((a0 / 2 ^ (mn (ji3) 62).toNat) + 1))) else (some (a0 / 2 ^ (mn (ji3) 62).toNat))) else (some (a0 / 2 ^ (mn (ji3) 62).toNat)))) else (none)) else (some (a0 / 2 ^ (mn (ji3) 62).toNat))) = some r := by first | (rw [hji3] at H; exact H) | (simp only [hji3] at H ⊢; exact H)
  (try (have hji3l : 0 ≤ ji3 := by (rw [← hji3]; unfold mx; (repeat' split) <;> omega)))
  (try (have hji3m : 0 ≤ ji3 := by omega))
  have hji3_ : (if a1 < 0 then 0 else a1) = ji3 := hji3
  obtain ⟨ji4, hji4⟩ : ∃ j_ : Int, (mn (ji3) 62) = j_ := ⟨_, rfl⟩
  replace H : (if (ji4) > 0 then (if 0 ≤ ((ji4) - 1) then (if (Go.bits .and .u64 (IntKind.u64.wrap (a0)) (IntKind.u64.wrap ((IntKind.u64.wrap (2 ^ (ji4).toNat)) - 1))) > (IntKind.u64.wrap (2 ^ ((ji4) - 1).toNat)) then (some (wrap64 ((a0 / 2 ^ (ji4).toNat) + 1))) else (if (Go.bits .and .u64 (IntKind.u64.wrap (a0)) (IntKind.u64.wrap ((IntKind.u64.wrap (2 ^ (ji4).toNat)) - 1))) = (IntKind.u64.wrap (2 ^ ((ji4) - 1).toNat)) then (if (Go.bits .and .i64 (a0 / 2 ^ (ji4).toNat) 1) = 1 then (some (wrap64 ((a0 / 2 ^ (ji4).toNat) + 1))) else (some (a0 / 2 ^ (ji4).toNat))) else (some (a0 / 2 ^ (ji4).toNat)))) else (none)) else (some (a0 / 2 ^ (ji4).toNat))) = some r := by first | (rw [hji4] at H; exact H) | (simp only [hji4] at H ⊢; exact H)
  have hji4_ : (if 62 < (ji3) then 62 else (ji3)) = ji4 := hji4
  by_cases c5 : (ji4) > 0
  · rw [if_pos c5] at H
    have c5b0 : decide (0 < (ji4)) = true := decide_eq_true c5
    clear c5
    obtain ⟨ji6, hji6⟩ : ∃ j_ : Int, ((ji4) - 1) = j_ := ⟨_, rfl⟩
    have hji6u : ji6 ≤ 61 := by
      have h := hji4_
      split at h <;> omega
    replace H : (if 0 ≤ (ji6) then (if (Go.bits .and .u64 (IntKind.u64.wrap (a0)) (IntKind.u64.wrap ((IntKind.u64.wrap (2 ^ (ji4).toNat)) - 1))) > (IntKind.u64.wrap (2 ^ (ji6).toNat)) then (some (wrap64 ((a0 / 2 ^ (ji4).toNat) + 1))) else (if (Go.bits .and .u64 (IntKind.u64.wrap (a0)) (IntKind.u64.wrap ((IntKind.u64.wrap (2 ^ (ji4).toNat)) - 1))) = (IntKind.u64.wrap (2 ^ (ji6).toNat)) then (if (Go.bits .and .i64 (a0 / 2 ^ (ji4).toNat) 1) = 1 then (some (wrap64 ((a0 / 2 ^ (ji4).toNat) + 1))) else (some (a0 / 2 ^ (ji4).toNat))) else (some (a0 / 2 ^ (ji4).toNat)))) else (none)) = some r := by first | (rw [hji6] at H; exact H) | (simp only [hji6] at H ⊢; exact H)
    by_cases c7 : 0 ≤ (ji6)
    · rw [if_pos c7] at H
      have c7b0 := eq_true c7
      have c7b1 : decide (0 ≤ (ji6)) = true := decide_eq_true c7
      clear c7
      by_cases c8 : (Go.bits .and .u64 (IntKind.u64.wrap (a0)) (IntKind.u64.wrap ((IntKind.u64.wrap (2 ^ (ji4).toNat)) - 1))) > (IntKind.u64.wrap (2 ^ (ji6).toNat))
      · rw [if_pos c8] at H
        have c8b0 : decide ((IntKind.u64.wrap (2 ^ (ji6).toNat)) < (Go.bits .and .u64 (IntKind.u64.wrap (a0)) (IntKind.u64.wrap ((IntKind.u64.wrap (2 ^ (ji4).toNat)) - 1)))) = true := decide_eq_true c8
        rw [show ji6.toNat = min ji6.toNat 64 by omega] at c8b0
        clear c8
        obtain rfl := Option.some.inj H
        go_enter Try.func74, Try.ntmps74
        go_wp2
        go_ret
        exact ⟨by first | rfl | (simp [errW_none, errW_some] <;> rfl) | (simp only [← hji3, ← hji4, ← hji6]; first | rfl | (simp [errW_none, errW_some] <;> rfl)) | (simp [*, errW_none, errW_some] <;> rfl), by repeat (first | (with_reducible first | exact HB.out | apply below_alloc | apply pw_below_drewN | apply below_drew1) | exact HB.out)⟩
      · rw [if_neg c8] at H
        have c8b0 : decide ((IntKind.u64.wrap (2 ^ (ji6).toNat)) < (Go.bits .and .u64 (IntKind.u64.wrap (a0)) (IntKind.u64.wrap ((IntKind.u64.wrap (2 ^ (ji4).toNat)) - 1)))) = false := decide_eq_false c8
        rw [show ji6.toNat = min ji6.toNat 64 by omega] at c8b0
        clear c8
        have c9b0 := eq_true (of_decide_eq_true (by first | (with_reducible assumption) | assumption) : 0 ≤ (ji6))
        by_cases c10 : (Go.bits .and .u64 (IntKind.u64.wrap (a0)) (IntKind.u64.wrap ((IntKind.u64.wrap (2 ^ (ji4).toNat)) - 1))) = (IntKind.u64.wrap (2 ^ (ji6).toNat))
        · rw [if_pos c10] at H
          have c10b0 : ((Go.bits .and .u64 (IntKind.u64.wrap (a0)) (IntKind.u64.wrap ((IntKind.u64.wrap (2 ^ (ji4).toNat)) - 1))) == (IntKind.u64.wrap (2 ^ (ji6).toNat))) = true := beq_iff_eq.mpr c10
          rw [show ji6.toNat = min ji6.toNat 64 by omega] at c10b0
          have c10b1 : ((Go.bits .and .u64 (IntKind.u64.wrap (a0)) (IntKind.u64.wrap ((IntKind.u64.wrap (2 ^ (ji4).toNat)) - 1))) != (IntKind.u64.wrap (2 ^ (ji6).toNat))) = false := bne_eq_false_iff_eq.mpr c10
          rw [show ji6.toNat = min ji6.toNat 64 by omega] at c10b1
          clear c10
          by_cases c11 : (Go.bits .and .i64 (a0 / 2 ^ (ji4).toNat) 1) = 1
          · rw [if_pos c11] at H
            have c11b0 : ((Go.bits .and .i64 (a0 / 2 ^ (ji4).toNat) 1) == 1) = true := beq_iff_eq.mpr c11
            have c11b1 : ((Go.bits .and .i64 (a0 / 2 ^ (ji4).toNat) 1) != 1) = false := bne_eq_false_iff_eq.mpr c11
            clear c11
            obtain rfl := Option.some.inj H
            go_enter Try.func74, Try.ntmps74
            go_wp2
            go_ret
            exact ⟨by first | rfl | (simp [errW_none, errW_some] <;> rfl) | (simp only [← hji3, ← hji4, ← hji6]; first | rfl | (simp [errW_none, errW_some] <;> rfl)) | (simp [*, errW_none, errW_some] <;> rfl), by repeat (first | (with_reducible first | exact HB.out | apply below_alloc | apply pw_below_drewN | apply below_drew1) | exact HB.out)⟩
          · rw [if_neg c11] at H
            have c11b0 : ((Go.bits .and .i64 (a0 / 2 ^ (ji4).toNat) 1) == 1) = false := beq_eq_false_iff_ne.mpr c11
            have c11b1 : ((Go.bits .and .i64 (a0 / 2 ^ (ji4).toNat) 1) != 1) = true := bne_iff_ne.mpr c11
            obtain rfl := Option.some.inj H
            go_enter Try.func74, Try.ntmps74
            go_wp2
            go_ret
            exact ⟨by first | rfl | (simp [errW_none, errW_some] <;> rfl) | (simp only [← hji3, ← hji4, ← hji6]; first | rfl | (simp [errW_none, errW_some] <;> rfl)) | (simp [*, errW_none, errW_some] <;> rfl), by repeat (first | (with_reducible first | exact HB.out | apply below_alloc | apply pw_below_drewN | apply below_drew1) | exact HB.out)⟩
        · rw [if_neg c10] at H
          have c10b0 : ((Go.bits .and .u64 (IntKind.u64.wrap (a0)) (IntKind.u64.wrap ((IntKind.u64.wrap (2 ^ (ji4).toNat)) - 1))) == (IntKind.u64.wrap (2 ^ (ji6).toNat))) = false := beq_eq_false_iff_ne.mpr c10
          rw [show ji6.toNat = min ji6.toNat 64 by omega] at c10b0
          have c10b1 : ((Go.bits .and .u64 (IntKind.u64.wrap (a0)) (IntKind.u64.wrap ((IntKind.u64.wrap (2 ^ (ji4).toNat)) - 1))) != (IntKind.u64.wrap (2 ^ (ji6).toNat))) = true := bne_iff_ne.mpr c10
          rw [show ji6.toNat = min ji6.toNat 64 by omega] at c10b1
          obtain rfl := Option.some.inj H
          go_enter Try.func74, Try.ntmps74
          go_wp2
          go_ret
          exact ⟨by first | rfl | (simp [errW_none, errW_some] <;> rfl) | (simp only [← hji3, ← hji4, ← hji6]; first | rfl | (simp [errW_none, errW_some] <;> rfl)) | (simp [*, errW_none, errW_some] <;> rfl), by repeat (first | (with_reducible first | exact HB.out | apply below_alloc | apply pw_below_drewN | apply below_drew1) | exact HB.out)⟩
    · rw [if_neg c7] at H
      exact absurd H (by simp)
  · rw [if_neg c5] at H
    have c5b0 : decide (0 < (ji4)) = false := decide_eq_false c5
    clear c5
    obtain rfl := Option.some.inj H
    go_enter Try.func74, Try.ntmps74
    go_wp2
    go_ret
    exact ⟨by first | rfl | (simp [errW_none, errW_some] <;> rfl) | (simp only [← hji3, ← hji4]; first | rfl | (simp [errW_none, errW_some] <;> rfl)) | (simp [*, errW_none, errW_some] <;> rfl), by repeat (first | (with_reducible first | exact HB.out | apply below_alloc | apply pw_below_drewN | apply below_drew1) | exact HB.out)⟩

end Go.Proofs.Ytninmcmajbfccaa.PQ
