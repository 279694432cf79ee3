import Derived.Below
import Derived.Deep.Draws
import Derived.Deep.AppendLies
import Derived.Maps.AppendAt
import Derived.OwnWalk
import Derived.Laws.BytesArg
import Derived.Laws.MakeOwn
import Derived.Laws.OwnMore
import Derived.Deep.OwnRows
import Derived.Tactics
import Derived.Lib.ConvBytes
import Derived.Laws.Slices
import Derived.WalkKit
import Derived.KernelRfl
import Derived.RowKit3
import Derived.Deep.LoopGhost
import Derived.Deep.QuietTactic
import Derived.BigQuiet
import Derived.WideLaws
import Derived.Deep.DeepCutAuto
import Derived.Deep.CutBlock
import Derived.Deep.RegionHeld3
import Derived.Laws.Rows
import Derived.Lib.AppendStr
import Derived.ArgAppend
import Derived.Laws.IdiomCopy
import Derived.RowKit
import Derived.OrdersHeld
import Derived.Laws.BitsLemmas
import Derived.Laws.StructEq
/- Joined and thinned by a program of this session's own (wip/pack2.py) out of its texts (wip/ of its repo); parts were laid by its own program (wip/print-patch.py over the kit's print) out of the translation; Lean checks all. -/
set_option linter.unusedVariables false
set_option linter.unusedSimpArgs false
namespace Go.Proofs.af.aU
open Go.RowKit
structure aj (p : Prop) : Prop where mk :: (out : p)
structure dA (w w' : World) : Prop where mk :: (out : ∃ n, w' = w.drewN n)
theorem dA.refl (w : World) : dA w w := ⟨⟨0, rfl⟩⟩
theorem dA.step {w w' : World} (h : dA w w') (n : Nat) : dA w (w'.drewN n) := by
 obtain ⟨m, rfl⟩ := h; exact ⟨⟨m + n, World.drewN_drewN ..⟩⟩
theorem dA.below {w w' : World} (h : dA w w') : Below w.heap.size w w' := by
 obtain ⟨n, rfl⟩ := h
 induction n with
 | zero => exact Below.refl _ _
 | succ n ih => rw [← World.drew_drewN]; exact ih.drew
def rd (xs : List Int) (i : Int) : Int := xs.getD i.toNat 0
def bt (s : ByteArray) (i : Int) : Int := if h : i.toNat < s.size then ((s[i.toNat]'h).toNat : Int) else 0
theorem ak {w W : World} (h : Below w.heap.size w W) (o : Obj) : Below w.heap.size w (W.alloc o) := h.alloc h.size o
theorem EN {B : Nat} {w W : World} (h : Below B w W) : Below B w W.drew := ⟨h.os, h.tape, h.output, h.size, h.block⟩
theorem ah {B : Nat} {w W : World} (h : Below B w W) (n : Nat) : Below B w (W.drewN n) := ⟨h.os, h.tape, h.output, h.size, h.block⟩
theorem NY {B : Nat} {w w1 w2 : World} (h : Below B w w1) (hB : B ≤ w1.heap.size) (k : Below w1.heap.size w1 w2) : Below B w w2 :=
 h.trans ⟨k.os, k.tape, k.output, k.size, fun i hi => k.block i (Nat.lt_of_lt_of_le hi hB)⟩
theorem gu {w w1 : World} (h : Below w.heap.size w w1) (row : Option Nat) : w.grownBy w1 row := ⟨h.os, h.tape, h.output, h.size, fun i hi _ => h.block i hi⟩
theorem Fj {w w1 : World} (h : Below w.heap.size w w1) {a : Addr} {v : Value} (hc : w.cell? a = some v) : w1.cell? a = some v := (h.cell (World.block_lt_of_cell? w a hc)).trans hc
theorem add_plain (g j : Nat) : (⟨g, 0, none⟩ : Addr).add j = ⟨g, j, none⟩ := by unfold Addr.add; split <;> simp_all
theorem Vy (W : World) (base : Nat) (e : TypeId) (size : Nat) : W.ownsRow base e size (.slice none 0 0) 0 [] := ⟨by simp, .inl ⟨rfl, rfl⟩⟩
theorem own_base {w : World} {base : Nat} {e : TypeId} {size n : Nat} {v : Value} {xs : List Value} (h : w.ownsRow base e size v n xs) (k : Nat) (hk : v.ownBlock = some k) : base ≤ k := by
 rcases h.2 with ⟨rfl, _⟩ | ⟨g, cap, cur, rfl, hb, _⟩
 · simp [Value.ownBlock] at hk
 · have : g = k := by simpa [Value.ownBlock] using hk
   omega
theorem Tf {w : World} {base : Nat} {e : TypeId} {size n : Nat} {v : Value} {xs : List Value} (h : w.ownsRow base e size v n xs) (k : Nat) (hk : v.ownBlock = some k) : k < w.heap.size := by
 rcases h.2 with ⟨rfl, _⟩ | ⟨g, cap, cur, rfl, hb, hh, _⟩
 · simp [Value.ownBlock] at hk
 · have : g = k := by simpa [Value.ownBlock] using hk
   subst this; exact (Array.getElem?_eq_some_iff.1 hh).1
def qF {α : Type} (a b : Option α) : Prop := ∀ r, a = some r → b = some r
theorem qF.refl {α : Type} (a : Option α) : qF a a := fun _ h => h
theorem qF.none {α : Type} (b : Option α) : qF Option.none b := fun _ h => by cases h
theorem qF.trans {α : Type} {a b c : Option α} (h : qF a b) (k : qF b c) : qF a c := fun r hr => k r (h r hr)
theorem qF.ite {α : Type} {c : Prop} [Decidable c] {a a' b b' : Option α} (h : qF a a') (k : qF b b') : qF (if c then a else b) (if c then a' else b') := by
 split
 · exact h
 · exact k
theorem qF.bind {α β : Type} {a a' : Option α} {f f' : α → Option β} (h : qF a a') (k : ∀ x, qF (f x) (f' x)) : qF (a.bind f) (a'.bind f') := by
 intro r hr; obtain ⟨x, hx, hf⟩ := Option.bind_eq_some_iff.1 hr; exact Option.bind_eq_some_iff.2 ⟨x, h x hx, k x r hf⟩
theorem qF.map {α β : Type} {a a' : Option α} (f : α → β) (h : qF a a') : qF (a.map f) (a'.map f) := by
 intro r hr; obtain ⟨x, hx, hf⟩ := Option.map_eq_some_iff.1 hr; exact Option.map_eq_some_iff.2 ⟨x, h x hx, hf⟩
theorem Bq {α : Type} {g : Nat → Option α} (h : ∀ k, qF (g k) (g (k + 1))) (k : Nat) : ∀ j, qF (g k) (g (k + j))
 | 0 => qF.refl _
 | j + 1 => (Bq h k j).trans (h (k + j))
theorem RU {α : Type} {g : Nat → Option α} (h : ∀ k, qF (g k) (g (k + 1))) {k k' : Nat} (hk : k ≤ k') {r : α} (hr : g k = some r) : g k' = some r := by
 have := Bq h k (k' - k) r hr
 rwa [Nat.add_sub_cancel' hk] at this
def fP {α : Type} (R : α → List Value → Prop) (size : Nat) (ps : List α) (cs : List Value) : Prop :=
 cs.length = ps.length * size ∧ ∀ j p, ps[j]? = some p → R p ((cs.drop (j * size)).take size)
theorem fP.none {α : Type} (R : α → List Value → Prop) (size : Nat) : fP R size [] [] := ⟨by simp, fun j p h => by simp at h⟩
theorem fP.snoc {α : Type} {R : α → List Value → Prop} {size : Nat} {ps : List α} {cs c : List Value} {p : α} (h : fP R size ps cs) (hp : R p c) (hc : c.length = size) : fP R size (ps ++ [p]) (cs ++ c) := by
 refine ⟨by rw [List.length_append, h.1, hc, List.length_append, List.length_singleton, Nat.add_mul, Nat.one_mul], fun j q hq => ?_⟩
 rcases Nat.lt_or_ge j ps.length with hj | hj
 · rw [List.getElem?_append_left hj] at hq
   have h1 : j * size + size ≤ cs.length := by rw [h.1, ← Nat.succ_mul]; exact Nat.mul_le_mul_right _ hj
   have h2 := h.2 j q hq; rw [List.drop_append_of_le_length (by omega), List.take_append_of_le_length (by rw [List.length_drop]; omega)]; exact h2
 · have hj' : j = ps.length := by
    have := (List.getElem?_eq_some_iff.1 hq).1; rw [List.length_append, List.length_singleton] at this; omega
   subst hj'
   have hq' : p = q := by simpa using hq
   subst hq'; rw [← h.1, List.drop_left, ← hc, List.take_length]; exact hp
theorem fP.qP {α : Type} {R R' : α → List Value → Prop} {size : Nat} {ps : List α} {cs : List Value} (h : fP R size ps cs) (hR : ∀ p c, R p c → R' p c) : fP R' size ps cs := ⟨h.1, fun j p hj => hR _ _ (h.2 j p hj)⟩
def lS {α : Type} (R : α → List Value → Prop) (size : Nat) (w : World) (A : Option Addr) (n : Nat) (ps : List α) : Prop :=
 ps.length = n ∧ n ≤ 9223372036854775807 ∧ (0 < n → ∃ ad, A = some ad ∧ ∀ j p, ps[j]? = some p → ∃ c, c.length = size ∧ R p c ∧ ∀ i u, c[i]? = some u → w.cell? (ad.add (j * size + i)) = some u)
theorem lS.qP {α : Type} {R R' : α → List Value → Prop} {size : Nat} {w w1 : World} {A : Option Addr} {n : Nat} {ps : List α} (h : lS R size w A n ps) (hb : Below w.heap.size w w1) (hR : ∀ p c, R p c → R' p c) : lS R' size w1 A n ps :=
 ⟨h.1, h.2.1, fun hn => by
   obtain ⟨ad, e, hc⟩ := h.2.2 hn; refine ⟨ad, e, fun j p hj => ?_⟩
   obtain ⟨c, hs, hr, hcell⟩ := hc j p hj; exact ⟨c, hs, hR _ _ hr, fun i u hu => Fj hb (hcell i u hu)⟩⟩
theorem Fv {α : Type} {R : α → List Value → Prop} {w : World} {base n size : Nat} {e : TypeId} {v : Value} {ps : List α} {cs : List Value} (h : w.ownsRow base e size v n cs) (hR : fP R size ps cs) (hn : ps.length = n) :
 ∃ A c, v = .slice A n c ∧ lS R size w A n ps := by
 rcases Nat.eq_zero_or_pos n with h0 | h0
 · rcases h.2 with ⟨rfl, rfl⟩ | ⟨g, cap, cur, rfl, _⟩
   · exact ⟨none, 0, rfl, hn, by omega, fun hp => absurd hp (by omega)⟩
   · exact ⟨_, cap, rfl, hn, by omega, fun hp => absurd hp (by omega)⟩
 · obtain ⟨g, cap, rfl, _, _⟩ := h.form h0
   have hm : n ≤ 9223372036854775807 := by
    rcases h.2 with ⟨_, h1⟩ | ⟨g', cap', cur, he, _, _, h1, h2, _⟩
    · omega
    · simp only [maxLen] at h2
      omega
   refine ⟨_, cap, rfl, hn, hm, fun _ => ⟨_, rfl, fun j p hj => ⟨(cs.drop (j * size)).take size, ?_, hR.2 j p hj, fun i u hu => ?_⟩⟩⟩
   · have hjl := (List.getElem?_eq_some_iff.1 hj).1
     have h1 : j * size + size ≤ cs.length := by rw [hR.1, ← Nat.succ_mul]; exact Nat.mul_le_mul_right _ hjl
     rw [List.length_take, List.length_drop]; omega
   · refine h.cells (g := g) rfl _ u ?_
     rw [List.getElem?_take] at hu
     split at hu
     · rw [List.getElem?_drop] at hu
       exact hu
     · cases hu
section
variable {P : Program} {ops : Array Oper} {rest : List Oper} {o : Oper} {a : Act} {Q : Exit → Act → World → Prop}
theorem qJ {w0 W : World} (base : Nat) (hgd : o.guard = none) (s x : Operand) (t e : TypeId) (z : Value) (size bytes : Nat)
 (ho : o.op = .call { callee := .builtin .append, args := #[s, x], argTypes := #[t, t] })
 (ht : P.underlying t = some (.slice e)) (hinfo : (P.info? e).map (fun i => (i.zero, i.size, i.bytes)) = some (some z, size, bytes)) (hz : z.cells.size = size) (hs0 : 0 < size) (hb0 : 0 < bytes)
 (v : Value) (n : Nat) (xs ys : List Value) (hs : a.eval s = v) (hx : a.eval x = .slice (some ⟨W.heap.size, 0, none⟩) 1 1) (hys : ys.length = size) (h1 : ∀ u ∈ ys, u.oneCell' = true)
 (HO : W.ownsRow base e size v n xs) (HB : Below base w0 W) (hbase : base ≤ W.heap.size) (hl : (n + 1) * bytes ≤ 140737488355328)
 (h : ∀ v1 w1, w1.ownsRow base e size v1 (n + 1) (xs ++ ys) → Below base w0 w1 → W.grownBy w1 v.ownBlock → (v1.ownBlock = v.ownBlock ∨ ∃ b, v1.ownBlock = some b ∧ W.heap.size ≤ b) → wpList P ops Q rest (a.put o.dst v1) w1) :
 wpList P ops Q (o :: rest) a (W.alloc (.cells ys.toArray e)) := by
 obtain ⟨i0, hi, hzz⟩ := Option.map_eq_some_iff.1 hinfo; simp only [Prod.mk.injEq] at hzz; obtain ⟨hz0, hz1, hz2⟩ := hzz; have hlen : n + 1 ≤ 140737488355328 := Nat.le_trans (Nat.le_mul_of_pos_right _ hb0) hl; refine wpList_append_own_at (W.alloc (.cells ys.toArray e)) hgd s x t ho base e i0 z size bytes ht hi hz0 hz1 hz2 hz hs0 v n xs hs (HO.alloc _) ⟨W.heap.size, 0, none⟩ 1 1 ys hx (by rw [hys]; simp)
  (by simpa using World.news_of_block (cs := ys.toArray) (t := e) (fr := (0, 0)) (heap_alloc_new W (.cells ys.toArray e))) h1 (by simp only [maxLen]; omega) hl (by simp; omega) ?_
 intro v1 w1 hown hg _ hat; refine h v1 w1 hown ((HB.alloc hbase _).grown hg (by simp; omega) (own_base HO)) (World.grownBy.trans (World.grownBy_alloc W _ _) hg) ?_
 rcases hat with hat | hat
 · exact .inl hat
 · exact .inr ⟨_, hat, by simp⟩
end
theorem own_ne {w : World} {base : Nat} {e t : TypeId} {size n g : Nat} {v : Value} {xs : List Value} {cs : Array Value} (h : w.ownsRow base e size v n xs) (hg : w.heap[g]? = some (.cells cs t (0, 0))) (hne : e ≠ t) : some g ≠ v.ownBlock := by
 rcases h.2 with ⟨rfl, _⟩ | ⟨g', cap, cur, rfl, _, hh, _⟩
 · simp [Value.ownBlock]
 · intro he
   have : g = g' := by simpa [Value.ownBlock] using he
   subst this; rw [hg] at hh
   injection hh with hh
   injection hh with _ ht
   exact hne ht.symm
theorem PU {w : World} {g : Nat} {t : TypeId} {cs : Array Value} (h : w.heap[g]? = some (.cells cs t (0, 0))) (i : Nat) (u : Value) : (w.setCell ⟨g, i, none⟩ u).heap[g]? = some (.cells (cs.setIfInBounds i u) t (0, 0)) := by
 simp [World.setCell, Array.getElem?_modify, h]
theorem iw {w : World} {g : Nat} {t : TypeId} {cs : Array Value} (h : w.heap[g]? = some (.cells cs t (0, 0))) {p : Addr} (hp : g ≠ p.block) (u : Value) : (w.setCell p u).heap[g]? = some (.cells cs t (0, 0)) := (Below.heap_setCell w p u g hp).trans h
theorem fB {w : World} {g : Nat} {o : Obj} (h : w.heap[g]? = some o) : g < w.heap.size := (Array.getElem?_eq_some_iff.1 h).1
theorem az {w : World} {g : Nat} {t : TypeId} {cs : Array Value} (h : w.heap[g]? = some (.cells cs t (0, 0))) (i : Nat) : w.cell? ⟨g, i, none⟩ = cs[i]? := cell_of_row w g i cs t (0, 0) h
theorem ay {w : World} {g : Nat} {t : TypeId} {cs : Array Value} (h : w.heap[g]? = some (.cells cs t (0, 0))) (i : Nat) : w.frozen? ⟨g, i, none⟩ = false := by simp [World.frozen?, h]
theorem xO {w w1 : World} {g : Nat} {o : Obj} {row : Option Nat} (h : w.heap[g]? = some o) (hg : w.grownBy w1 row) (hne : some g ≠ row) : w1.heap[g]? = some o := (hg.block g (fB h) hne).trans h
def bP (w w' : World) (g : Nat) (row : Option Nat) : Prop := w.heap.size ≤ w'.heap.size ∧ ∀ i, i < w.heap.size → i ≠ g → some i ≠ row → w'.heap[i]? = w.heap[i]?
theorem bP.refl (w : World) (g : Nat) (row : Option Nat) : bP w w g row := ⟨Nat.le_refl _, fun _ _ _ _ => rfl⟩
theorem bP.Tj {w w1 : World} {row : Option Nat} (h : w.grownBy w1 row) (g : Nat) : bP w w1 g row := ⟨h.size, fun i hi _ hr => h.block i hi hr⟩
theorem bP.of_below {w w1 : World} (h : Below w.heap.size w w1) (g : Nat) (row : Option Nat) : bP w w1 g row := ⟨h.size, fun i hi _ _ => h.block i hi⟩
theorem bP.qI {w w1 : World} {g : Nat} {row : Option Nat} (h : bP w w1 g row) (j : Nat) (u : Value) : bP w (w1.setCell ⟨g, j, none⟩ u) g row :=
 ⟨by simpa [World.setCell] using h.1, fun i hi hg hr => (Below.heap_setCell w1 ⟨g, j, none⟩ u i hg).trans (h.2 i hi hg hr)⟩
theorem bP.trans {w w1 w2 : World} {g : Nat} {row Yx : Option Nat} (h : bP w w1 g row) (k : bP w1 w2 g Yx) (hr : Yx = row ∨ ∃ b, Yx = some b ∧ w.heap.size ≤ b) : bP w w2 g row :=
 ⟨Nat.le_trans h.1 k.1, fun i hi hg hn => by
   refine (k.2 i (Nat.lt_of_lt_of_le hi h.1) hg ?_).trans (h.2 i hi hg hn)
   rcases hr with rfl | ⟨b, rfl, hb⟩
   · exact hn
   · intro e
     injection e with e
     omega⟩
def Ev {α : Type} (g : Nat → Option α) (r : α) : Prop := ∃ K, ∀ k, K ≤ k → g k = some r
theorem Ev.of {α : Type} {g : Nat → Option α} {r : α} (hg : ∀ k, qF (g k) (g (k + 1))) {k : Nat} (h : g k = some r) : Ev g r := ⟨k, fun _ hk => RU hg hk h⟩
theorem Ev.now {α : Type} (r : α) : Ev (fun _ => some r) r := ⟨0, fun _ _ => rfl⟩
theorem Ev.rounds {α : Type} {g : Nat → Option α} {r : α} (h : Ev g r) : ∃ k, g k = some r := by
 obtain ⟨K, h⟩ := h; exact ⟨K, h K (Nat.le_refl _)⟩
theorem Ev.bind {α β : Type} {g : Nat → Option α} {f : Nat → α → Option β} {a : α} {r : β} (h : Ev g a) (k : Ev (fun n => f n a) r) : Ev (fun n => (g n).bind (f n)) r := by
 obtain ⟨K, h⟩ := h; obtain ⟨K', k⟩ := k; refine ⟨max K K', fun n hn => ?_⟩
 have h1 := h n (by omega); have h2 := k n (by omega); simp only [h1, Option.bind_some]; exact h2
theorem Ev.step {α : Type} {g f : Nat → Option α} {r : α} (h : ∀ k, g (k + 1) = f k) (k : Ev f r) : Ev g r := by
 obtain ⟨K, k⟩ := k; refine ⟨K + 1, fun n hn => ?_⟩
 obtain ⟨m, rfl⟩ : ∃ m, n = m + 1 := ⟨n - 1, by omega⟩
 rw [h]; exact k m (by omega)
theorem Ev.congr {α : Type} {g f : Nat → Option α} {r : α} (h : ∀ k, g k = f k) (k : Ev f r) : Ev g r := by
 obtain ⟨K, k⟩ := k; exact ⟨K, fun n hn => (h n).trans (k n hn)⟩
theorem Nb {w : World} {base base' : Nat} {e : TypeId} {size n : Nat} {v : Value} {xs : List Value} (h : w.ownsRow base e size v n xs) (hb : base' ≤ base) : w.ownsRow base' e size v n xs := by
 obtain ⟨h1, h2⟩ := h; refine ⟨h1, ?_⟩
 rcases h2 with h2 | ⟨g, cap, cur, rfl, hg, r⟩
 · exact .inl h2
 · exact .inr ⟨g, cap, cur, rfl, Nat.le_trans hb hg, r⟩
section
variable {α : Type} {enc : α → Value} {d : α}
def encs (enc : α → Value) (xs : List α) : List Value := xs.map enc
def Vx (d : α) (xs : List α) (i : Int) : α := xs.getD i.toNat d
theorem BD (xs : List α) : (encs enc xs).length = xs.length := by simp [encs]
theorem Uy (xs : List α) (j : Nat) (h : j < xs.length) : (encs enc xs)[j]? = some (enc (xs.getD j d)) := by
 simp [encs, List.getElem?_eq_getElem h, List.getD_eq_getElem?_getD]
def qx (enc : α → Value) (d : α) (w : World) (A : Option Addr) (n : Nat) (xs : List α) : Prop :=
 xs.length = n ∧ n ≤ 9223372036854775807 ∧ (0 < n → ∃ ad, A = some ad ∧ ∀ j, j < n → w.cell? (ad.add j) = some (enc (xs.getD j d)))
theorem qx.at_ {w : World} {A : Option Addr} {n : Nat} {xs : List α} (h : qx enc d w A n xs) (i : Int) (h0 : 0 ≤ i) (h1 : i < n) : ∃ ad, A = some ad ∧ w.cell? (ad.add i.toNat) = some (enc (Vx d xs i)) := by
 obtain ⟨ad, e, hc⟩ := h.2.2 (by omega); exact ⟨ad, e, hc _ (by omega)⟩
theorem QH {W : World} {base g n cap : Nat} {e : TypeId} {xs : List α} (h : W.ownsRow base e 1 (.slice (some ⟨g, 0, none⟩) n cap) n (encs enc xs)) (i : Int) (h0 : 0 ≤ i) (h1 : i < n) :
 W.cell? ⟨g, i.toNat, none⟩ = some (enc (Vx d xs i)) ∧ W.frozen? ⟨g, i.toNat, none⟩ = false := by
 have hl : xs.length = n := by have := h.1; simp [encs] at this; exact this
 constructor
 · have hc := h.cells (g := g) rfl i.toNat _ (Uy (d := d) xs i.toNat (by omega))
   rwa [add_plain] at hc
 · rcases h.2 with ⟨h', _⟩ | ⟨g', cap', cur, h', _, hh, _⟩
   · cases h'
   · have : g = g' := by injection h' with h'; injection h' with h'; injection h' with h'
     subst this
     simp [World.frozen?, hh]
theorem Ii {W : World} {base g n cap : Nat} {e : TypeId} {xs : List α} (h : W.ownsRow base e 1 (.slice (some ⟨g, 0, none⟩) n cap) n (encs enc xs)) (i : Int) (x : α) :
 (W.setCell ⟨g, i.toNat, none⟩ (enc x)).ownsRow base e 1 (.slice (some ⟨g, 0, none⟩) n cap) n (encs enc (xs.set i.toNat x)) ∧ W.grownBy (W.setCell ⟨g, i.toNat, none⟩ (enc x)) (some g) := by
 have hs := h.stored i.toNat (enc x)
 have he : (encs enc xs).set i.toNat (enc x) = encs enc (xs.set i.toNat x) := by simp [encs, List.map_set]
 rwa [he] at hs
end
theorem aC {w : World} {g : Nat} {o : Obj} (h : w.heap[g]? = some o) (o' : Obj) : (w.alloc o').heap[g]? = some o := (Below.heap_alloc w o' g (fB h)).trans h
theorem aH {w : World} {g : Nat} {o : Obj} (h : w.heap[g]? = some o) : w.drew.heap[g]? = some o := h
theorem aA {w : World} {g : Nat} {o : Obj} (h : w.heap[g]? = some o) (n : Nat) : (w.drewN n).heap[g]? = some o := h
theorem bH {w w1 : World} {g : Nat} {o : Obj} (h : w.heap[g]? = some o) (hb : Below w.heap.size w w1) : w1.heap[g]? = some o := (hb.block g (fB h)).trans h
theorem WX (w : World) (o : Obj) : (w.alloc o).heap[w.heap.size]? = some o := heap_alloc_new w o
section
variable {P : Program}
theorem ni {fn : Func} {p u : Tmp} {ty : TypeId} (h : fn.results = #[.cell p ty, .tmp u]) (tmps : Array Value) (w : World) (g : Nat) (t : TypeId) (cs : Array Value) (fr : Nat × Nat) (d : TypeDesc)
 (hp : tmps.getD p undef = .pointer (some ⟨g, 0, none⟩)) (hg : w.heap[g]? = some (.cells cs t fr))
 (hu : P.underlying ty = some d) (hd : (match d with | .struct _ | .array _ _ => true | _ => false) = true) (hi : (P.info? ty).map (·.size) = some cs.size) :
 (results fn tmps).run P w = .ok (.tuple #[.agg cs, tmps.getD u undef]) w := by
 have hp' : tmps[p]?.getD undef = .pointer (some ⟨g, 0, none⟩) := by simpa using hp
 simp [results, h, hp', asAddr, run_loadVar_row w g t ty cs fr d hg hu hd hi]
end
theorem YD {w : World} {base n m c size : Nat} {e : TypeId} {A : Option Addr} {xs : List Value} (h : w.ownsRow base e size (.slice A m c) n xs) : m ≤ c := by
 rcases h.2 with ⟨he, _⟩ | ⟨g, cap, cur, he, _, _, hnc, _⟩
 · injection he with _ h2 h3
   omega
 · injection he with _ h2 h3
   omega
def mO {α : Type} (R : α → List Value → Prop) (e : TypeId) (size : Nat) (w : World) (base : Nat) (v : Value) (ps : List α) : Prop :=
 ∃ inner, w.ownsRow base e size v ps.length inner ∧ fP R size ps inner
section
variable {α : Type} {R R' : α → List Value → Prop} {e : TypeId} {size : Nat} {w w1 : World} {base : Nat} {v : Value} {ps : List α}
theorem mO.none_ (R : α → List Value → Prop) (e : TypeId) (size : Nat) (w : World) (base : Nat) : mO R e size w base (.slice none 0 0) [] := ⟨[], Vy _ _ _ _, fP.none _ _⟩
theorem mO.qP (h : mO R e size w base v ps) (hR : ∀ p c, R p c → R' p c) : mO R' e size w base v ps := by
 obtain ⟨inner, ho, hr⟩ := h; exact ⟨inner, ho, hr.qP hR⟩
theorem mO.reads (h : mO R e size w base v ps) : ∃ A c, v = .slice A ps.length c ∧ ps.length ≤ c ∧ lS R size w A ps.length ps := by
 obtain ⟨inner, ho, hr⟩ := h; obtain ⟨A, c, rfl, hrow⟩ := Fv ho hr rfl; exact ⟨A, c, rfl, YD ho, hrow⟩
theorem mO.Tq (h : mO R e size w base v ps) {g : Nat} {t : TypeId} {cells : Array Value} (hb : w.heap[g]? = some (.cells cells t (0, 0))) (ht : e ≠ t) : some g ≠ v.ownBlock := by
 obtain ⟨inner, ho, hr⟩ := h; exact own_ne ho hb ht
end
section
variable {P : Program} {ops : Array Oper} {rest : List Oper} {o : Oper} {a : Act} {Q : Exit → Act → World → Prop} {α : Type} {R : α → List Value → Prop}
theorem mO.append {w0 W : World} (base : Nat) (hgd : o.guard = none) (s x : Operand) (t e : TypeId) (z : Value) (size bytes : Nat)
 (ho : o.op = .call { callee := .builtin .append, args := #[s, x], argTypes := #[t, t] })
 (ht : P.underlying t = some (.slice e)) (hinfo : (P.info? e).map (fun i => (i.zero, i.size, i.bytes)) = some (some z, size, bytes)) (hz : z.cells.size = size) (hs0 : 0 < size) (hb0 : 0 < bytes)
 (v : Value) (ps : List α) (p : α) (cs : List Value) (hs : a.eval s = v) (hx : a.eval x = .slice (some ⟨W.heap.size, 0, none⟩) 1 1) (hp : R p cs) (hcs : cs.length = size) (h1 : ∀ u ∈ cs, u.oneCell' = true)
 (HO : mO R e size W base v ps) (HB : Below base w0 W) (hbase : base ≤ W.heap.size) (hl : (ps.length + 1) * bytes ≤ 140737488355328)
 (h : ∀ v1 w1, mO R e size w1 base v1 (ps ++ [p]) → Below base w0 w1 → W.grownBy w1 v.ownBlock → (v1.ownBlock = v.ownBlock ∨ ∃ b, v1.ownBlock = some b ∧ W.heap.size ≤ b) → wpList P ops Q rest (a.put o.dst v1) w1) :
 wpList P ops Q (o :: rest) a (W.alloc (.cells cs.toArray e)) := by
 obtain ⟨inner, hown, hr⟩ := HO; refine qJ base hgd s x t e z size bytes ho ht hinfo hz hs0 hb0 v ps.length inner cs hs hx hcs h1 hown HB hbase hl ?_
 intro v1 w1 hown1 hb1 hg1 WQ; exact h v1 w1 ⟨inner ++ cs, by rw [List.length_append, List.length_singleton]; exact hown1, hr.snoc hp hcs⟩ hb1 hg1 WQ
end
theorem lS.YL {α : Type} {R : α → List Value → Prop} {size : Nat} {w : World} {ad : Addr} {n : Nat} {ps : List α} (h : lS R size w (some ad) n ps) :
 ∃ inner, fP R size ps inner ∧ ∀ j u, inner[j]? = some u → w.cell? (ad.add j) = some u := by
 have key : ∀ m, m ≤ ps.length → ∃ inner, fP R size (ps.take m) inner ∧ ∀ j u, inner[j]? = some u → w.cell? (ad.add j) = some u := by
  intro m
  induction m with
  | zero => exact fun _ => ⟨[], fP.none _ _, fun j u hu => by simp at hu⟩
  | succ m ih =>
    intro hm; obtain ⟨inner, hr, hc⟩ := ih (by omega); obtain ⟨ad', he, hcell⟩ := h.2.2 (by have := h.1; omega)
    injection he with he
    subst he; obtain ⟨c, hcl, hp, hcc⟩ := hcell m _ (List.getElem?_eq_getElem (show m < ps.length by omega)); refine ⟨inner ++ c, ?_, fun j u hu => ?_⟩
    · rw [List.take_succ_eq_append_getElem (show m < ps.length by omega)]
      exact hr.snoc hp hcl
    · have hil : inner.length = m * size := by rw [hr.1, List.length_take, Nat.min_eq_left (by omega)]
      rcases Nat.lt_or_ge j inner.length with hj | hj
      · rw [List.getElem?_append_left hj] at hu
        exact hc j u hu
      · rw [List.getElem?_append_right hj] at hu
        have := hcc (j - inner.length) u hu
        rwa [hil, Nat.add_sub_cancel' (by omega)] at this
 obtain ⟨inner, hr, hc⟩ := key ps.length (Nat.le_refl _); rw [List.take_length] at hr; exact ⟨inner, hr, hc⟩
structure Kd (α : Type) where
 sz : Nat
 E : List Nat
 K : World → α → List Value → Prop
 M : World → Nat → (Nat → Prop) → α → List Value → Prop
 wK : ∀ {w x cs}, K w x cs → cs.length = sz
 u_ : ∀ {w x cs}, K w x cs → ∀ u ∈ cs, u.oneCell' = true
 pg : ∀ {w w1 : World} {x cs}, Below w.heap.size w w1 → K w x cs → K w1 x cs
 lT : ∀ {w base ok x cs}, M w base ok x cs → K w x cs
 kM : ∀ {w base ok ok' x cs}, (∀ k, ok k → ok' k) → M w base ok x cs → M w base ok' x cs
 jS : ∀ {w : World} {base ok x cs}, M w base ok x cs → M w base (fun k => ok k ∧ base ≤ k ∧ k < w.heap.size ∧ ∃ q, q ∈ E ∧ ∃ cells, w.heap[k]? = some (.cells cells q (0, 0))) x cs
 o9 : ∀ {w w1 : World} {base ok x cs}, (∀ k, ok k → w1.heap[k]? = w.heap[k]?) → M w base ok x cs → M w1 base ok x cs
 o_ : ∀ {w base base' ok x cs}, base' ≤ base → M w base ok x cs → M w base' ok x cs
theorem nU {w w1 : World} {base : Nat} {e : TypeId} {size n : Nat} {v : Value} {xs : List Value} (h : w.ownsRow base e size v n xs) (hm : ∀ k, v.ownBlock = some k → w1.heap[k]? = w.heap[k]?) : w1.ownsRow base e size v n xs := by
 obtain ⟨h1, h2⟩ := h; refine ⟨h1, ?_⟩
 rcases h2 with h2 | ⟨g, cap, cur, rfl, hg, hh, r⟩
 · exact .inl h2
 · exact .inr ⟨g, cap, cur, rfl, hg, (hm g (by simp [Value.ownBlock])).trans hh, r⟩
theorem F_ {w : World} {base : Nat} {e : TypeId} {size n : Nat} {v : Value} {xs : List Value} (h : w.ownsRow base e size v n xs) (k : Nat) (hk : v.ownBlock = some k) : ∃ cells, w.heap[k]? = some (.cells cells e (0, 0)) := by
 rcases h.2 with ⟨rfl, _⟩ | ⟨g, cap, cur, rfl, hg, hh, r⟩
 · simp [Value.ownBlock] at hk
 · have : g = k := by simpa [Value.ownBlock] using hk
   subst this; exact ⟨cur, hh⟩
namespace Kd
def C {α : Type} (d : Kd α) (w : World) (A : Option Addr) (n : Nat) (xs : List α) : Prop := lS (d.K w) d.sz w A n xs
def R {α : Type} (d : Kd α) (e : Nat) (w : World) (base : Nat) (ok : Nat → Prop) (v : Value) (xs : List α) : Prop :=
 (∀ k, v.ownBlock = some k → ok k) ∧ mO (d.M w base (fun k => ok k ∧ some k ≠ v.ownBlock)) e d.sz w base v xs
section
variable {α : Type} {d : Kd α} {e : Nat} {w w1 : World} {base : Nat} {ok ok' : Nat → Prop} {v : Value} {xs : List α}
theorem gJ {A : Option Addr} {n : Nat} (h : d.C w A n xs) (hb : Below w.heap.size w w1) : d.C w1 A n xs := lS.qP h hb (fun _ _ hp => d.pg hb hp)
theorem t_ (d : Kd α) (e : Nat) (w : World) (base : Nat) (ok : Nat → Prop) : d.R e w base ok (.slice none 0 0) [] := ⟨fun k hk => by simp [Value.ownBlock] at hk, mO.none_ _ _ _ _ _⟩
theorem jc (h : d.R e w base ok v xs) (hok : ∀ k, ok k → ok' k) : d.R e w base ok' v xs := ⟨fun k hk => hok k (h.1 k hk), h.2.qP (fun _ _ hp => d.kM (fun k hk => ⟨hok k hk.1, hk.2⟩) hp)⟩
theorem uQ (h : d.R e w base ok v xs) : d.R e w base (fun k => ok k ∧ base ≤ k ∧ k < w.heap.size ∧ ∃ q, q ∈ e :: d.E ∧ ∃ cells, w.heap[k]? = some (.cells cells q (0, 0))) v xs := by
 obtain ⟨h0, inner, ho, hr⟩ := h; refine ⟨fun k hk => ?_, inner, ho, hr.qP (fun _ _ hp => d.kM (fun k hk => ?_) (d.jS hp))⟩
 · obtain ⟨cells, hc⟩ := F_ ho k hk
   exact ⟨h0 k hk, own_base ho k hk, Tf ho k hk, e, List.mem_cons_self, cells, hc⟩
 · obtain ⟨⟨h1, h2⟩, h3, h4, q, hq, hc⟩ := hk
   exact ⟨⟨h1, h3, h4, q, List.mem_cons_of_mem _ hq, hc⟩, h2⟩
theorem Jq (h : d.R e w base ok v xs) (hm : ∀ k, ok k → w1.heap[k]? = w.heap[k]?) : d.R e w1 base ok v xs := by
 obtain ⟨h0, inner, ho, hr⟩ := h; exact ⟨h0, inner, nU ho (fun k hk => hm k (h0 k hk)), hr.qP (fun _ _ hp => d.o9 (fun k hk => hm k hk.1) hp)⟩
theorem mY {base' : Nat} (h : d.R e w base ok v xs) (hb : base' ≤ base) : d.R e w base' ok v xs := by
 obtain ⟨h0, inner, ho, hr⟩ := h; exact ⟨h0, inner, Nb ho hb, hr.qP (fun _ _ hp => d.o_ hb hp)⟩
theorem Oc (h : d.R e w base ok v xs) (hm : ∀ k, ok k → k < w.heap.size → w1.heap[k]? = w.heap[k]?) : d.R e w1 base ok v xs :=
 jc (Jq (uQ h) (fun k hk => hm k hk.1 hk.2.2.1)) (fun _ hk => hk.1)
theorem U6 {x : α} {cs : List Value} (h : d.M w base ok x cs) (hm : ∀ k, ok k → k < w.heap.size → w1.heap[k]? = w.heap[k]?) : d.M w1 base ok x cs :=
 d.kM (fun _ hk => hk.1) (d.o9 (fun k hk => hm k hk.1 hk.2.2.1) (d.jS h))
theorem oI (h : d.R e w base ok v xs) (hb : Below w.heap.size w w1) : d.R e w1 base ok v xs := Oc h (fun k _ hk => hb.block k hk)
theorem Qj {x : α} {cs : List Value} (h : d.M w base ok x cs) (hb : Below w.heap.size w w1) : d.M w1 base ok x cs := U6 h (fun k _ hk => hb.block k hk)
theorem gI (h : d.R e w base ok v xs) {p : Addr} (hok : ∀ k, ok k → k ≠ p.block) (u : Value) : d.R e (w.setCell p u) base ok v xs := Oc h (fun k ho _ => Below.heap_setCell w p u k (hok k ho))
theorem l_ (h : d.R e w base ok v xs) {g t : Nat} {cells : Array Value} (hb : w.heap[g]? = some (.cells cells t (0, 0))) (ht : ∀ q, q ∈ e :: d.E → q ≠ t) : d.R e w base (fun k => ok k ∧ k ≠ g) v xs :=
 jc (uQ h) (fun k hk => ⟨hk.1, by
  obtain ⟨_, _, _, q, hq, cells', hc⟩ := hk; rintro rfl; rw [hc] at hb
  injection hb with hb
  injection hb with _ hb
  exact ht q hq hb⟩)
theorem Di (h : d.R e w base ok v xs) : ∃ A c, v = .slice A xs.length c ∧ xs.length ≤ c ∧ d.C w A xs.length xs := by
 obtain ⟨A, c, he, hl, hr⟩ := mO.reads h.2; exact ⟨A, c, he, hl, hr.qP (Below.refl _ _) (fun _ _ hp => d.lT hp)⟩
theorem je (h : d.R e w base ok v xs) : ∃ A c, v = .slice A xs.length c := by
 obtain ⟨A, c, he, _⟩ := Di h; exact ⟨A, c, he⟩
theorem UR (h : d.R e w base ok v xs) : ∃ inner, w.ownsRow base e d.sz v xs.length inner := by
 obtain ⟨_, inner, ho, _⟩ := h; exact ⟨inner, ho⟩
theorem zI (h : d.R e w base ok v xs) {g t : Nat} {cells : Array Value} (hb : w.heap[g]? = some (.cells cells t (0, 0))) (ht : e ≠ t) : some g ≠ v.ownBlock := mO.Tq h.2 hb ht
end
def scalar {α : Type} (enc : α → Value) (h1 : ∀ x, (enc x).oneCell' = true) : Kd α where
 sz := 1
 E := []
 K := fun _ x cs => cs = [enc x]
 M := fun _ _ _ x cs => cs = [enc x]
 wK := fun h => by rw [h]; rfl
 u_ := fun h u hu => by
  rw [h] at hu; rw [List.mem_singleton.1 hu]; exact h1 _
 pg := fun _ h => h
 lT := fun h => h
 kM := fun _ h => h
 jS := fun h => h
 o9 := fun _ h => h
 o_ := fun _ h => h
def int (k : IntKind) : Kd Int := scalar (Value.int k) (fun _ => rfl)
def bool : Kd Bool := scalar Value.bool (fun _ => rfl)
def slice {α : Type} (e : Nat) (d : Kd α) : Kd (List α) where
 sz := 1
 E := e :: d.E
 K := fun w xs cs => ∃ A c, cs = [.slice A xs.length c] ∧ xs.length ≤ c ∧ d.C w A xs.length xs
 M := fun w base ok xs cs => ∃ v, cs = [v] ∧ d.R e w base ok v xs
 wK := by
  rintro w x cs ⟨A, c, rfl, _⟩; rfl
 u_ := by
  rintro w x cs ⟨A, c, rfl, _⟩ u hu; rw [List.mem_singleton.1 hu]; rfl
 pg := by
  rintro w w1 x cs hb ⟨A, c, rfl, hl, hr⟩; exact ⟨A, c, rfl, hl, gJ hr hb⟩
 lT := by
  rintro w base ok x cs ⟨v, rfl, h⟩; obtain ⟨A, c, rfl, hl, hr⟩ := Di h; exact ⟨A, c, rfl, hl, hr⟩
 kM := by
  rintro w base ok ok' x cs hok ⟨v, rfl, h⟩; exact ⟨v, rfl, jc h hok⟩
 jS := by
  rintro w base ok x cs ⟨v, rfl, h⟩; exact ⟨v, rfl, uQ h⟩
 o9 := by
  rintro w w1 base ok x cs hm ⟨v, rfl, h⟩; exact ⟨v, rfl, Jq h hm⟩
 o_ := by
  rintro w base base' ok x cs hb ⟨v, rfl, h⟩; exact ⟨v, rfl, mY h hb⟩
theorem Oh {α : Type} {d : Kd α} {e base : Nat} {ok Ik : Nat → Prop} {W w1 : World} {v v1 : Value} {xs : List α} {p : α} {inner cs : List Value} (h0 : ∀ k, v.ownBlock = some k → ok k) (hr : fP (d.M W base (fun k => ok k ∧ some k ≠ v.ownBlock)) d.sz xs inner) (hp : d.M W base Ik p cs) (TR : ∀ k, Ik k → ok k ∧ some k ≠ v.ownBlock) (hfresh : ∀ k, W.heap.size ≤ k → ok k)
 (hown : w1.ownsRow base e d.sz v1 (xs.length + 1) (inner ++ cs)) (hg : W.grownBy w1 v.ownBlock) (hat : v1.ownBlock = v.ownBlock ∨ ∃ b, v1.ownBlock = some b ∧ W.heap.size ≤ b) : d.R e w1 base ok v1 (xs ++ [p]) := by
 have hne : ∀ k, some k ≠ v.ownBlock → k < W.heap.size → some k ≠ v1.ownBlock := by
  intro k hk hlt
  rcases hat with hat | ⟨b, hb, hle⟩
  · rw [hat]; exact hk
  · rw [hb]
    intro he
    injection he with he
    omega
 have step : ∀ {q : α} {c : List Value} {o : Nat → Prop}, d.M W base o q c → (∀ k, o k → ok k ∧ some k ≠ v.ownBlock) → d.M w1 base (fun k => ok k ∧ some k ≠ v1.ownBlock) q c := by
  intro q c o hq ho; have h1 := d.o9 (w1 := w1) (fun k hk => hg.block k hk.2.2.1 (ho k hk.1).2) (d.jS hq); exact d.kM (fun k hk => ⟨(ho k hk.1).1, hne k (ho k hk.1).2 hk.2.2.1⟩) h1
 refine ⟨fun k hk => ?_, inner ++ cs, by rw [List.length_append, List.length_singleton]; exact hown, ?_⟩
 · rcases hat with hat | ⟨b, hb, hle⟩
   · exact h0 k (hat ▸ hk)
   · rw [hb] at hk
     injection hk with hk
     exact hfresh k (by omega)
 · exact (hr.qP (fun _ _ hq => step hq (fun _ hk => hk))).snoc (step hp TR) (d.wK (d.lT hp))
section
variable {P : Program} {ops : Array Oper} {rest : List Oper} {o : Oper} {a : Act} {Q : Exit → Act → World → Prop} {α : Type}
theorem UY (d : Kd α) {w0 W : World} (base : Nat) (hgd : o.guard = none) (s x : Operand) (t e : TypeId) (z : Value) (bytes : Nat)
 (ho : o.op = .call { callee := .builtin .append, args := #[s, x], argTypes := #[t, t] })
 (ht : P.underlying t = some (.slice e)) (hinfo : (P.info? e).map (fun i => (i.zero, i.size, i.bytes)) = some (some z, d.sz, bytes)) (hz : z.cells.size = d.sz) (hs0 : 0 < d.sz) (hb0 : 0 < bytes)
 (v : Value) (xs : List α) (p : α) (cs : List Value) (ok Ik : Nat → Prop) (hs : a.eval s = v) (hx : a.eval x = .slice (some ⟨W.heap.size, 0, none⟩) 1 1) (hp : d.M W base Ik p cs) (TR : ∀ k, Ik k → ok k ∧ some k ≠ v.ownBlock) (hfresh : ∀ k, W.heap.size ≤ k → ok k)
 (HO : d.R e W base ok v xs) (HB : Below base w0 W) (hbase : base ≤ W.heap.size) (hl : (xs.length + 1) * bytes ≤ 140737488355328)
 (h : ∀ v1 w1, d.R e w1 base ok v1 (xs ++ [p]) → Below base w0 w1 → W.grownBy w1 v.ownBlock → (v1.ownBlock = v.ownBlock ∨ ∃ b, v1.ownBlock = some b ∧ W.heap.size ≤ b) → wpList P ops Q rest (a.put o.dst v1) w1) :
 wpList P ops Q (o :: rest) a (W.alloc (.cells cs.toArray e)) := by
 obtain ⟨h0, inner, hown, hr⟩ := HO; refine qJ base hgd s x t e z d.sz bytes ho ht hinfo hz hs0 hb0 v xs.length inner cs hs hx (d.wK (d.lT hp)) (d.u_ (d.lT hp)) hown HB hbase hl ?_
 intro v1 w1 hown1 hb1 hg1 WQ; exact h v1 w1 (Oh h0 hr hp TR hfresh hown1 hg1 WQ) hb1 hg1 WQ
end
theorem JM {α : Type} {enc : α → Value} (xs : List α) : fP (fun (x : α) (cs : List Value) => cs = [enc x]) 1 xs (encs enc xs) := by
 refine ⟨by simp [encs], fun j p hj => ?_⟩
 obtain ⟨hl, hp⟩ := List.getElem?_eq_some_iff.1 hj
 have hl' : j < (encs enc xs).length := by rw [BD]; exact hl
 rw [Nat.mul_one, List.drop_eq_getElem_cons hl']
 simp [encs, hp]
theorem K_ {α : Type} {enc : α → Value} {h1 : ∀ x, (enc x).oneCell' = true} {e : Nat} {w : World} {base : Nat} {ok : Nat → Prop} {v : Value} {xs : List α} (ho : w.ownsRow base e 1 v xs.length (encs enc xs)) (hok : ∀ k, v.ownBlock = some k → ok k) : (scalar enc h1).R e w base ok v xs := ⟨hok, encs enc xs, ho, JM xs⟩
theorem vV {α : Type} {enc : α → Value} {h1 : ∀ x, (enc x).oneCell' = true} {e : Nat} {w : World} {base : Nat} {ok : Nat → Prop} {v : Value} {xs : List α} (h : (scalar enc h1).R e w base ok v xs) : w.ownsRow base e 1 v xs.length (encs enc xs) := by
 obtain ⟨_, inner, ho, hr⟩ := h
 have : inner = encs enc xs := by
  apply List.ext_getElem?
  intro j
  rcases Nat.lt_or_ge j xs.length with hj | hj
  · have h2 := hr.2 j _ (List.getElem?_eq_getElem hj)
    have hl : j < inner.length := by have := hr.1; simp [scalar] at this; omega
    have h3 : (inner.drop (j * 1)).take 1 = [enc xs[j]] := h2; rw [Nat.mul_one, List.drop_eq_getElem_cons hl] at h3
    have h4 : inner[j] = enc xs[j] := by
     have h5 := congrArg List.head? h3; rw [List.take_succ_cons] at h5; exact Option.some.inj h5
    rw [List.getElem?_eq_getElem hl, h4]
    simp [encs, List.getElem?_eq_getElem hj]
  · have h3 : inner.length = xs.length := by have := hr.1; simp [scalar] at this; omega
    rw [List.getElem?_eq_none (by omega), List.getElem?_eq_none (by rw [BD]; omega)]
 rw [← this]; exact ho
theorem Oj {α : Type} {enc : α → Value} {d : α} {h1 : ∀ x, (enc x).oneCell' = true} {w : World} {A : Option Addr} {n : Nat} {xs : List α} (h : qx enc d w A n xs) : (scalar enc h1).C w A n xs := by
 refine ⟨h.1, h.2.1, fun hn => ?_⟩
 obtain ⟨ad, e, hc⟩ := h.2.2 hn; refine ⟨ad, e, fun j p hj => ⟨[enc p], rfl, rfl, fun i u hu => ?_⟩⟩
 obtain ⟨hl, hp⟩ := List.getElem?_eq_some_iff.1 hj; have h2 := hc j (by have := h.1; omega); rw [List.getD_eq_getElem?_getD, hj] at h2
 cases i with
 | zero =>
   have : enc p = u := by simpa using hu
   subst this
   simpa [scalar] using h2
 | succ i => simp at hu
theorem Dz {α : Type} {enc : α → Value} {d : α} {h1 : ∀ x, (enc x).oneCell' = true} {w : World} {A : Option Addr} {n : Nat} {xs : List α} (h : (scalar enc h1).C w A n xs) : qx enc d w A n xs := by
 refine ⟨h.1, h.2.1, fun hn => ?_⟩
 obtain ⟨ad, e, hc⟩ := h.2.2 hn; refine ⟨ad, e, fun j hj => ?_⟩
 have hl : j < xs.length := by have := h.1; omega
 obtain ⟨c, _, hK, hcell⟩ := hc j _ (List.getElem?_eq_getElem hl); have hK' : c = [enc xs[j]] := hK; subst hK'; have := hcell 0 _ rfl
 simpa [scalar, List.getD_eq_getElem?_getD, List.getElem?_eq_getElem hl] using this
end Kd
namespace Kd
theorem Xd {α : Type} {d : Kd α} {e base : Nat} {ok : Nat → Prop} {W w1 : World} {u v v1 : Value} {xs : List α} (h : d.R e W base (fun k => ok k ∧ some k ≠ v.ownBlock) u xs) (hg : W.grownBy w1 v.ownBlock) (hat : v1.ownBlock = v.ownBlock ∨ ∃ b, v1.ownBlock = some b ∧ W.heap.size ≤ b) : d.R e w1 base (fun k => ok k ∧ some k ≠ v1.ownBlock) u xs := by
 refine jc (Jq (uQ h) (fun k hk => hg.block k hk.2.2.1 hk.1.2)) (fun k hk => ⟨hk.1.1, ?_⟩)
 rcases hat with hat | ⟨b, hb, hle⟩
 · rw [hat]; exact hk.1.2
 · rw [hb]
   intro he
   injection he with he
   have := hk.2.2.1; omega
end Kd
namespace Kd
section
variable {α β : Type} {d : Kd α} {d' : Kd β} {e e' : Nat} {w w1 W : World} {base b b' : Nat} {ok ok' okv oku : Nat → Prop} {v u : Value} {xs : List α} {ys : List β}
theorem dO (h : d.R e w base ok v xs) (o : Obj) : d.R e (w.alloc o) base ok v xs := oI h (ak (Below.refl _ _) o)
theorem eG (h : d.R e w base ok v xs) : d.R e w.drew base ok v xs := oI h (EN (Below.refl _ _))
theorem dN (h : d.R e w base ok v xs) (m : Nat) : d.R e (w.drewN m) base ok v xs := oI h (ah (Below.refl _ _) m)
theorem iD {A : Option Addr} {n : Nat} (h : d.C w A n xs) (o : Obj) : d.C (w.alloc o) A n xs := gJ h (ak (Below.refl _ _) o)
theorem jv {A : Option Addr} {n : Nat} (h : d.C w A n xs) : d.C w.drew A n xs := gJ h (EN (Below.refl _ _))
theorem iC {A : Option Addr} {n : Nat} (h : d.C w A n xs) (m : Nat) : d.C (w.drewN m) A n xs := gJ h (ah (Below.refl _ _) m)
theorem adi (d : Kd α) (w : World) : d.C w none ([] : List α).length [] := ⟨rfl, by simp, fun h => absurd h (Nat.lt_irrefl 0)⟩
theorem kT {A : Option Addr} {n c : Nat} (h : d.R e w base ok (.slice A n c) xs) : n = xs.length ∧ n ≤ c ∧ d.C w A xs.length xs := by
 obtain ⟨A', c', he, hl, hr⟩ := Di h
 injection he with h1 h2 h3
 subst h1; exact ⟨h2, by omega, hr⟩
theorem Oe (h : d.R e w base ok v xs) : ∀ k, v.ownBlock = some k → k < w.heap.size := by
 obtain ⟨inner, ho⟩ := UR h; exact Tf ho
theorem wJ (h : d.R e w base ok v xs) : ∀ k, v.ownBlock = some k → base ≤ k := by
 obtain ⟨inner, ho⟩ := UR h; exact own_base ho
theorem UU (h : d.R e w base ok v xs) (hp : 0 < xs.length) : ∃ g cap, v = .slice (some ⟨g, 0, none⟩) xs.length cap ∧ base ≤ g ∧ g < w.heap.size ∧ ∃ cells, w.heap[g]? = some (.cells cells e (0, 0)) := by
 obtain ⟨inner, ho⟩ := UR h; obtain ⟨g, cap, he, hb, hl⟩ := ho.form hp; obtain ⟨cells, hc⟩ := F_ ho g (by rw [he]; simp [Value.ownBlock]); exact ⟨g, cap, he, hb, hl, cells, hc⟩
end
section
variable {w W : World} {A : Option Addr} {n : Nat}
theorem gZ {k : IntKind} {xs : List Int} (h : (Kd.int k).C w A n xs) (i : Int) (h0 : 0 ≤ i) (h1 : i < n) : ∃ ad, A = some ad ∧ w.cell? (ad.add i.toNat) = some (.int k (rd xs i)) :=
 qx.at_ (Dz (enc := Value.int k) (d := (0 : Int)) (h1 := fun _ => rfl) h) i h0 h1
variable {α : Type} {enc : α → Value} {h1 : ∀ x, (enc x).oneCell' = true} {e base g cap : Nat} {ok : Nat → Prop} {xs : List α}
theorem ZG (d : α) (h : (scalar enc h1).R e W base ok (.slice (some ⟨g, 0, none⟩) xs.length cap) xs) (i : Int) (h0 : 0 ≤ i) (hi : i < xs.length) : W.cell? ⟨g, i.toNat, none⟩ = some (enc (Vx d xs i)) ∧ W.frozen? ⟨g, i.toNat, none⟩ = false := QH (vV h) i h0 hi
theorem ab5 (h : (scalar enc h1).R e W base ok (.slice (some ⟨g, 0, none⟩) xs.length cap) xs) (i : Int) (x : α) : (scalar enc h1).R e (W.setCell ⟨g, i.toNat, none⟩ (enc x)) base ok (.slice (some ⟨g, 0, none⟩) xs.length cap) (xs.set i.toNat x) ∧ W.grownBy (W.setCell ⟨g, i.toNat, none⟩ (enc x)) (some g) := by
 obtain ⟨ho, hg⟩ := Ii (vV h) i x; exact ⟨K_ (by rw [List.length_set]; exact ho) h.1, hg⟩
end
section
variable {P : Program} {ops : Array Oper} {rest : List Oper} {o : Oper} {a : Act} {Q : Exit → Act → World → Prop}
theorem Gn {W w1 : World} {v : Value} (hgd : o.guard = none) (hrun : (execOp a.eval o).run P W = .ok (.value v) w1) (h : wpList P ops Q rest (a.put o.dst v) w1) : wpList P ops Q (o :: rest) a W := by
 refine wpList_plain hgd fun K hK => ?_
 unfold Oper.wp
 rw [hrun]; exact hK _ _ h
variable {α : Type}
theorem ab6 (d : Kd α) {w0 W : World} (base e : Nat) (hgd : o.guard = none) {N : Tmp} (_hd : o.dst = some N) {xs : List α} {inner : List Value} {ok Ik : Nat → Prop}
 (hrun : (execOp a.eval o).run P W = .ok (.value (.slice (some ⟨W.heap.size, 0, none⟩) xs.length xs.length)) (W.alloc (.cells inner.toArray e)))
 (hrep : fP (d.M W base Ik) d.sz xs inner) (hok : ∀ k, Ik k → ok k) (hfresh : ok W.heap.size) (HB : Below base w0 W) (hbase : base ≤ W.heap.size) (hm : xs.length ≤ 9223372036854775807)
 (h : ∀ v1 w1, d.R e w1 base ok v1 xs → Below base w0 w1 → W.grownBy w1 none → (∃ b, v1.ownBlock = some b ∧ W.heap.size ≤ b) → wpList P ops Q rest (a.put o.dst v1) w1) : wpList P ops Q (o :: rest) a W := by
 refine Gn hgd hrun (h _ _ ⟨fun k hk => ?_, inner, ?_, ?_⟩ (HB.alloc hbase _) (World.grownBy_alloc W _ none) ⟨W.heap.size, by simp [Value.ownBlock], Nat.le_refl _⟩)
 · have : W.heap.size = k := by simpa [Value.ownBlock] using hk
   subst this; exact hfresh
 · have h2 := World.ownsRow_lit (base := base) (e := e) (size := d.sz) W inner.toArray xs.length hbase (by simpa [maxLen] using hm) (by simpa using hrep.1)
   simpa using h2
 · refine hrep.qP (fun p c hp => d.kM (fun k hk => ⟨hok k hk.1, fun he => ?_⟩) (Qj (d.jS hp) (ak (Below.refl _ _) _)))
   have h3 : k = W.heap.size := by simpa [Value.ownBlock] using he
   have := hk.2.2.1; omega
end
end Kd
def ab7 (w : World) (base : Nat) (e : TypeId) (size : Nat) (v : Value) (n : Nat) (xs : List Value) : Prop :=
 xs.length = n * size ∧
 ((n = 0 ∧ ∃ A, v = .slice A 0 0 ∧ ∀ a, A = some a → base ≤ a.block ∧ ∃ cur, w.heap[a.block]? = some (.cells cur e (0, 0))) ∨
  ∃ g off cap cur, v = .slice (some ⟨g, off * size, none⟩) n cap ∧ base ≤ g ∧ w.heap[g]? = some (.cells cur e (0, 0)) ∧ n ≤ cap ∧ off + cap ≤ maxLen ∧ cur.size = (off + cap) * size ∧ (cur.toList.drop (off * size)).take (n * size) = xs)
section
variable {w w1 : World} {base n size : Nat} {e : TypeId} {v : Value} {xs : List Value}
theorem S_ (h : w.ownsRow base e size v n xs) : ab7 w base e size v n xs := by
 obtain ⟨h1, h2⟩ := h; refine ⟨h1, ?_⟩
 rcases h2 with ⟨rfl, h0⟩ | ⟨g, cap, cur, rfl, hb, hh, hnc, hcm, hcs, ht⟩
 · exact .inl ⟨h0, none, rfl, fun a ha => by cases ha⟩
 · exact .inr ⟨g, 0, cap, cur, by rw [Nat.zero_mul], hb, hh, hnc, by rw [Nat.zero_add]; exact hcm, by rw [Nat.zero_add]; exact hcs, by rw [Nat.zero_mul, List.drop_zero]; exact ht⟩
end
namespace Kd
def Q {α : Type} (d : Kd α) (e : Nat) (w : World) (base : Nat) (ok : Nat → Prop) (v : Value) (xs : List α) : Prop :=
 (∀ k, v.ownBlock = some k → ok k) ∧ ∃ inner, ab7 w base e d.sz v xs.length inner ∧ fP (d.M w base (fun k => ok k ∧ some k ≠ v.ownBlock)) d.sz xs inner
section
variable {α : Type} {d : Kd α} {e : Nat} {w w1 W : World} {base : Nat} {ok ok' : Nat → Prop} {v : Value} {xs : List α}
theorem ZJ (h : d.R e w base ok v xs) : d.Q e w base ok v xs := by
 obtain ⟨h0, inner, ho, hr⟩ := h; exact ⟨h0, inner, S_ ho, hr⟩
theorem zK (d : Kd α) (e : Nat) (w : World) (base : Nat) (ok : Nat → Prop) : d.Q e w base ok (.slice none 0 0) [] := ZJ (t_ d e w base ok)
end
end Kd
namespace Kd
section
variable {α : Type} {d : Kd α} {e e' : Nat} {w w1 W : World} {base : Nat} {ok : Nat → Prop} {u v : Value} {xs : List α}
theorem zJ (hu : d.R e W base ok u xs) (hbase : ∀ k, v.ownBlock = some k → W.heap.size ≤ k) (hb : Below W.heap.size W w1) : d.R e w1 base (fun k => ok k ∧ some k ≠ v.ownBlock) u xs :=
 jc (Jq (uQ hu) (fun k hk => hb.block k hk.2.2.1)) (fun k hk => ⟨hk.1, fun he => by have := hbase k he.symm; have := hk.2.2.1; omega⟩)
theorem Jp (h : d.R e w1 W.heap.size ok v xs) (hlt : ∀ k, u.ownBlock = some k → k < W.heap.size) : d.R e w1 W.heap.size (fun k => ok k ∧ some k ≠ u.ownBlock) v xs :=
 jc (uQ h) (fun k hk => ⟨hk.1, fun he => by have := hlt k he.symm; have := hk.2.1; omega⟩)
theorem fresh' (hlt : ∀ k, u.ownBlock = some k → k < W.heap.size) : ∀ k, W.heap.size ≤ k → some k ≠ u.ownBlock := fun k hk he => by have := hlt k he.symm; omega
end
end Kd
namespace Kd
theorem JO {α : Type} {R : α → List Value → Prop} {size : Nat} {ps qs : List α} {cs ds : List Value} (h : fP R size ps cs) (h' : fP R size qs ds) : fP R size (ps ++ qs) (cs ++ ds) := by
 refine ⟨by rw [List.length_append, List.length_append, h.1, h'.1, Nat.add_mul], fun j p hj => ?_⟩
 rcases Nat.lt_or_ge j ps.length with hlt | hge
 · rw [List.getElem?_append_left hlt] at hj
   have hle : j * size + size ≤ cs.length := by rw [h.1, ← Nat.succ_mul]; exact Nat.mul_le_mul_right _ hlt
   rw [List.drop_append_of_le_length (by omega), List.take_append_of_le_length (by rw [List.length_drop]; omega)]; exact h.2 j p hj
 · rw [List.getElem?_append_right hge] at hj
   have h2 := h'.2 (j - ps.length) p hj; have hle : ps.length * size ≤ j * size := Nat.mul_le_mul_right _ hge; rw [List.drop_append, List.drop_eq_nil_of_le (by rw [h.1]; exact hle), List.nil_append, h.1, ← Nat.sub_mul]; exact h2
end Kd
theorem bg {w W : World} (h : Below w.heap.size w W) : w.heap.size ≤ W.heap.size := h.size
theorem aV {w W w2 : World} (h : Below w.heap.size w W) (k : Below W.heap.size W w2) : Below w.heap.size w w2 := NY h h.size k
theorem aG {w W : World} {g j : Nat} {v : Value} (h : Below w.heap.size w W) (hg : w.heap.size ≤ g) : Below w.heap.size w (W.setCell ⟨g, j, none⟩ v) := h.setCell hg _
theorem eu {w W : World} {g : Nat} {row : Option Nat} (h : bP w W g row) (m : Nat) : bP w (W.drewN m) g row := h
theorem eF {w W : World} {g : Nat} (h : bP w W g none) (o : Obj) : bP w (W.alloc o) g none := h.trans (bP.Tj (World.grownBy_alloc W o none) g) (.inl rfl)
theorem QU {w W : World} {g : Nat} (h : bP w W g none) {a : Addr} {v : Value} (hc : w.cell? a = some v) (hne : a.block ≠ g) : W.cell? a = some v := by
 have := h.2 a.block (World.block_lt_of_cell? w a hc) hne (by simp)
 simpa [World.cell?, this] using hc
theorem add_block (a : Addr) (i : Nat) : (a.add i).block = a.block := by unfold Addr.add; split <;> rfl
theorem jX {w W : World} {g : Nat} {row : Option Nat} (h : bP w W g row) : w.heap.size ≤ W.heap.size := h.1
theorem qx.keep {α : Type} {enc : α → Value} {d : α} {w W : World} {A : Option Addr} {n g : Nat} {xs : List α} (h : qx enc d w A n xs) (hk : bP w W g none) (hf : ∀ ad, A = some ad → 0 < n → ad.block ≠ g) : qx enc d W A n xs :=
 ⟨h.1, h.2.1, fun hn => by
   obtain ⟨ad, e, hc⟩ := h.2.2 hn; exact ⟨ad, e, fun j hj => QU hk (hc j hj) (by rw [add_block]; exact hf ad e hn)⟩⟩
theorem cell_far {W : World} {p a : Addr} (h : a.block ≠ p.block) (u : Value) : (W.setCell p u).cell? a = W.cell? a := by
 have := Below.heap_setCell W p u a.block h
 simp [World.cell?, this]
theorem bM {w : World} {g : Nat} {t : TypeId} {cs cs' : Array Value} (h : w.heap[g]? = some (.cells cs t (0, 0))) (i : Nat) (u : Value) (e : cs.setIfInBounds i u = cs') : (w.setCell ⟨g, i, none⟩ u).heap[g]? = some (.cells cs' t (0, 0)) := e ▸ PU h i u
theorem bU {w W : World} {g : Nat} {row : Option Nat} (h : bP w W g row) {p : Addr} (hp : w.heap.size ≤ p.block) (u : Value) : bP w (W.setCell p u) g row :=
 ⟨by simpa [World.setCell] using h.1, fun i hi hg hr => (Below.heap_setCell W p u i (by omega)).trans (h.2 i hi hg hr)⟩
theorem au {base : Nat} {w W : World} (h : Below base w W) : Below base w W.drew := h.drew
theorem fC {w W : World} {g : Nat} {row : Option Nat} (h : bP w W g row) : bP w W.drew g row := h
namespace Kd
section
variable {α : Type} {enc : α → Value} {h1 : ∀ x, (enc x).oneCell' = true} {w W : World} {A : Option Addr} {n g : Nat} {xs : List α}
theorem Ol (d : α) (h : (scalar enc h1).C w A n xs) (hk : bP w W g none) (hf : ∀ ad, A = some ad → 0 < n → ad.block ≠ g) : (scalar enc h1).C W A n xs := Oj (qx.keep (Dz (d := d) h) hk hf)
end
end Kd
section
variable {P : Program} {ops : Array Oper} {rest : List Oper} {o : Oper} {a : Act} {Q : Exit → Act → World → Prop}
theorem dw {W : World} (hgd : o.guard = none) {N : Tmp} (_hd : o.dst = some N) {cs : Array Value} {t : TypeId}
 (hrun : (execOp a.eval o).run P W = .ok (.value (.pointer (some ⟨W.heap.size, 0, none⟩))) (W.alloc (.cells cs t (0, 0))))
 (h : ∀ g, g = W.heap.size → ∀ w1, w1.heap[g]? = some (.cells cs t (0, 0)) → Below W.heap.size W w1 → wpList P ops Q rest (a.put o.dst (.pointer (some ⟨g, 0, none⟩))) w1) : wpList P ops Q (o :: rest) a W :=
 Kd.Gn hgd hrun (h _ rfl _ (WX W _) (ak (Below.refl _ _) _))
end
namespace Kd
section
variable {α : Type} {enc : α → Value} {h1 : ∀ x, (enc x).oneCell' = true} {e base g n cap : Nat} {ok : Nat → Prop} {W : World} {xs : List α}
theorem Qb (d : α) (h : (scalar enc h1).R e W base ok (.slice (some ⟨g, 0, none⟩) n cap) xs) (i : Int) (h0 : 0 ≤ i) (hi : i < n) : W.cell? ⟨g, i.toNat, none⟩ = some (enc (Vx d xs i)) ∧ W.frozen? ⟨g, i.toNat, none⟩ = false := by
 obtain ⟨rfl, _⟩ := kT h; exact ZG d h i h0 hi
theorem UQ (h : (scalar enc h1).R e W base ok (.slice (some ⟨g, 0, none⟩) n cap) xs) (i : Int) (x : α) : (scalar enc h1).R e (W.setCell ⟨g, i.toNat, none⟩ (enc x)) base ok (.slice (some ⟨g, 0, none⟩) n cap) (xs.set i.toNat x) := by
 obtain ⟨rfl, _⟩ := kT h; exact (ab5 h i x).1
end
end Kd
section
variable {P : Program} {ops : Array Oper} {rest : List Oper} {o : Oper} {a : Act} {Q : Exit → Act → World → Prop} {W : World}
theorem dH {N : Tmp} (_hN : o.dst = some N) (h : wpList P ops Q (o :: rest) a W) : wpList P ops Q (o :: rest) a W := h
end
section
variable {P : Program} {ops : Array Oper} {o : Oper} {a : Act} {Q : Exit → Act → World → Prop} {Kc : Act → World → Prop}
theorem NM {W w1 : World} {v : Value} (hw : Region.wanted o (yielded ops a.tmps) = true) (hrun : (execOp a.eval o).run P W = .ok (.value v) w1) (h : Kc (a.put o.dst v) w1) : if Region.wanted o (yielded ops a.tmps) = true then Oper.wp P o a W Kc Q else Kc (a.put o.dst undef) W := by
 rw [if_pos hw]
 unfold Oper.wp
 rw [hrun]; exact h
namespace Kd
variable {α : Type}
theorem Og (d : Kd α) {w0 W : World} (base e : Nat) (hw : Region.wanted o (yielded ops a.tmps) = true) {N : Tmp} (_hd : o.dst = some N) {xs : List α} {inner : List Value} {ok Ik : Nat → Prop}
 (hrun : (execOp a.eval o).run P W = .ok (.value (.slice (some ⟨W.heap.size, 0, none⟩) xs.length xs.length)) (W.alloc (.cells inner.toArray e)))
 (hrep : fP (d.M W base Ik) d.sz xs inner) (hok : ∀ k, Ik k → ok k) (hfresh : ok W.heap.size) (HB : Below base w0 W) (hbase : base ≤ W.heap.size) (hm : xs.length ≤ 9223372036854775807)
 (h : ∀ v1 w1, d.R e w1 base ok v1 xs → Below base w0 w1 → W.grownBy w1 none → (∃ b, v1.ownBlock = some b ∧ W.heap.size ≤ b) → Kc (a.put o.dst v1) w1) : if Region.wanted o (yielded ops a.tmps) = true then Oper.wp P o a W Kc Q else Kc (a.put o.dst undef) W := by
 refine NM hw hrun (h _ _ ⟨fun k hk => ?_, inner, ?_, ?_⟩ (HB.alloc hbase _) (World.grownBy_alloc W _ none) ⟨W.heap.size, by simp [Value.ownBlock], Nat.le_refl _⟩)
 · have : W.heap.size = k := by simpa [Value.ownBlock] using hk
   subst this; exact hfresh
 · have h2 := World.ownsRow_lit (base := base) (e := e) (size := d.sz) W inner.toArray xs.length hbase (by simpa [maxLen] using hm) (by simpa using hrep.1)
   simpa using h2
 · refine hrep.qP (fun p c hp => d.kM (fun k hk => ⟨hok k hk.1, fun he => ?_⟩) (Qj (d.jS hp) (ak (Below.refl _ _) _)))
   have h3 : k = W.heap.size := by simpa [Value.ownBlock] using he
   have := hk.2.2.1; omega
theorem yE (d : Kd α) {Rr : α → List Value → Prop} {w0 W : World} (base : Nat) (hw : Region.wanted o (yielded ops a.tmps) = true) (s x : Operand) (t e : TypeId) (z : Value) (bytes : Nat)
 (ho : o.op = .call { callee := .builtin .append, args := #[s, x], argTypes := #[t, t] })
 (ht : P.underlying t = some (.slice e)) (hinfo : (P.info? e).map (fun i => (i.zero, i.size, i.bytes)) = some (some z, d.sz, bytes)) (hz : z.cells.size = d.sz) (hs0 : 0 < d.sz) (hb0 : 0 < bytes)
 (v : Value) (xs ys : List α) (A : Option Addr) (m c : Nat) (ok Ik : Nat → Prop) (hs : a.eval s = v) (hx : a.eval x = .slice A m c)
 (HO : d.R e W base ok v xs) (HR : lS Rr d.sz W A m ys) (hKM : ∀ x cs, Rr x cs → d.M W base Ik x cs) (TR : ∀ k, Ik k → ok k ∧ some k ≠ v.ownBlock) (hfresh : ∀ k, W.heap.size ≤ k → ok k)
 (HB : Below base w0 W) (hbase : base ≤ W.heap.size) (hl : (xs.length + m) * bytes ≤ 140737488355328)
 (h : ∀ v1 w1, d.R e w1 base ok v1 (xs ++ ys) → Below base w0 w1 → W.grownBy w1 v.ownBlock → (v1.ownBlock = v.ownBlock ∨ ∃ b, v1.ownBlock = some b ∧ W.heap.size ≤ b) → Kc (a.put o.dst v1) w1) :
 if Region.wanted o (yielded ops a.tmps) = true then Oper.wp P o a W Kc Q else Kc (a.put o.dst undef) W := by
 obtain ⟨i0, hi, hzz⟩ := Option.map_eq_some_iff.1 hinfo; simp only [Prod.mk.injEq] at hzz; obtain ⟨hz0, hz1, hz2⟩ := hzz; have hm : ys.length = m := HR.1; have hlen : xs.length + m ≤ 140737488355328 := Nat.le_trans (Nat.le_mul_of_pos_right _ hb0) hl; obtain ⟨hok, inner, hown, hr⟩ := HO
 have hrun : ∃ v1 w1, (Builtin.append_ #[t, t] o.type #[v, .slice A m c]).run P W = .ok v1 w1 ∧ d.R e w1 base ok v1 (xs ++ ys) ∧ W.grownBy w1 v.ownBlock ∧ (v1.ownBlock = v.ownBlock ∨ ∃ b, v1.ownBlock = some b ∧ W.heap.size ≤ b) := by
  rcases A with _ | ad
  · have h0 : m = 0 := by
     rcases Nat.eq_zero_or_pos m with h0 | h0
     · exact h0
     · obtain ⟨ad, h, _⟩ := HR.2.2 h0
       cases h
    subst h0; obtain rfl : ys = [] := List.eq_nil_of_length_eq_zero hm; refine ⟨v, W, ?_, by rw [List.append_nil]; exact ⟨hok, inner, hown, hr⟩, World.grownBy.refl W _, .inl rfl⟩
    rcases hown.2 with ⟨rfl, hn⟩ | ⟨g, cap, cur, rfl, _, _, hnc, _⟩
    · simp [Builtin.append_, run_underlying ht, sizeOf, typeInfo, hi, Builtin.lenOf, Builtin.firstCells]
    · simp [Builtin.append_, run_underlying ht, sizeOf, typeInfo, hi, Builtin.lenOf, Builtin.firstCells, hnc, storeCells]
  · obtain ⟨news, hnr, hnc⟩ := lS.YL HR
    have hnM : fP (d.M W base Ik) d.sz ys news := hnr.qP (fun p c hp => hKM p c hp)
    have hone : ∀ u ∈ news, u.oneCell' = true := by
     intro u hu; obtain ⟨q, hq, rfl⟩ := List.mem_iff_getElem.1 hu
     have hql : q / d.sz < ys.length := by
      rw [Nat.div_lt_iff_lt_mul hs0]; rw [← hnM.1]; exact hq
     have hc := hnM.2 (q / d.sz) _ (List.getElem?_eq_getElem hql); refine d.u_ (d.lT hc) _ ?_
     rw [List.mem_iff_getElem?]; refine ⟨q % d.sz, ?_⟩
     rw [List.getElem?_take, if_pos (Nat.mod_lt _ hs0), List.getElem?_drop, Nat.mul_comm, Nat.div_add_mod, List.getElem?_eq_getElem hq]
    obtain ⟨v1, w1, hrun, h2, hg, _, hat⟩ := run_append_own_at (P := P) W base t o.type e i0 z d.sz bytes ht hi hz0 hz1 hz2 hz hs0 v xs.length inner hown ad m c news (by rw [hnM.1, hm]) hnc hone (by simp only [maxLen]; omega) hl hbase
    have hat' : v1.ownBlock = v.ownBlock ∨ ∃ b, v1.ownBlock = some b ∧ W.heap.size ≤ b := by
     rcases hat with hat | hat
     · exact .inl hat
     · exact .inr ⟨_, hat, Nat.le_refl _⟩
    have hne : ∀ k, some k ≠ v.ownBlock → k < W.heap.size → some k ≠ v1.ownBlock := by
     intro k hk hlt
     rcases hat' with hat | ⟨b, hb, hle⟩
     · rw [hat]; exact hk
     · rw [hb]
       intro he
       injection he with he
       omega
    have step : ∀ {q : α} {c : List Value} {o : Nat → Prop}, d.M W base o q c → (∀ k, o k → ok k ∧ some k ≠ v.ownBlock) → d.M w1 base (fun k => ok k ∧ some k ≠ v1.ownBlock) q c := by
     intro q c o hq ho; have h1 := d.o9 (w1 := w1) (fun k hk => hg.block k hk.2.2.1 (ho k hk.1).2) (d.jS hq); exact d.kM (fun k hk => ⟨(ho k hk.1).1, hne k (ho k hk.1).2 hk.2.2.1⟩) h1
    refine ⟨v1, w1, hrun, ⟨fun k hk => ?_, inner ++ news, by rw [List.length_append, hm]; exact h2, JO (hr.qP (fun _ _ hq => step hq (fun _ hk => hk))) (hnM.qP (fun _ _ hq => step hq TR))⟩, hg, hat'⟩
    rcases hat' with hat | ⟨b, hb, hle⟩
    · exact hok k (hat ▸ hk)
    · rw [hb] at hk
      injection hk with hk
      exact hfresh k (by omega)
 obtain ⟨v1, w1, hr1, h1, hg, hat⟩ := hrun; rw [if_pos hw]
 unfold Oper.wp execOp
 simp only [ho, resolve, invoke, builtin, Sem.run_bind, Sem.run_pure, Result.andThen_ok, List.map_toArray, List.map_cons, List.map_nil, hs, hx, hr1]; exact h v1 w1 h1 (HB.grown hg hbase (own_base hown)) hg hat
end Kd
end
end Go.Proofs.af.aU

namespace Go.Proofs.af.a_
section
variable {P : Program} {ops : Array Oper} {Q : Exit → Act → World → Prop} {md : Region.Mode} {S : World → Prop} {ds : List Nat}
def Region.pR (md : Region.Mode) (ops : Array Oper) (i : Nat) : Nat → Nat → Bool
 | 0, _ => false
 | fuel + 1, d => match ops[d]? with
   | some o => o.after.any fun e => Region.binds md e && (e.on == i || Region.pR md ops i fuel e.on)
   | none => false
def Region.zo (md : Region.Mode) (ops : Array Oper) (listed : Array Bool) : Bool :=
 (List.range ops.size).all fun j => !listed.getD j false || match ops[j]? with
   | some o => o.after.all fun e => !Region.binds md e || listed.getD e.on false
   | none => true
def Region.lastB (md : Region.Mode) (ops : Array Oper) (listed : Array Bool) (ds : List Nat) (i : Nat) : Bool :=
 ds.all fun d => listed.getD d true || Region.pR md ops i ops.size d
def kN (md : Region.Mode) (ops : Array Oper) (listed : Array Bool) : Prop :=
 ∀ j oj, ops[j]? = some oj → listed.getD j false = true → ∀ e ∈ oj.after, Region.binds md e = true → listed.getD e.on false = true
theorem Region.Jm {listed : Array Bool} (h : Region.zo md ops listed = true) : kN md ops listed := by
 intro j oj hj hl e he hb; have hlt : j < ops.size := (Array.getElem?_eq_some_iff.1 hj).1; have h1 := List.all_eq_true.1 h j (List.mem_range.2 hlt); simp only [hl, hj, Bool.not_true, Bool.false_or] at h1; have h2 := Array.all_eq_true_iff_forall_mem.1 h1 e he
 simpa [hb] using h2
theorem kN.set {listed : Array Bool} {i : Nat} (h : kN md ops listed) (hi : i ∈ Region.ready md ops listed) : kN md ops (listed.setIfInBounds i true) := by
 obtain ⟨_, oi, hoi, hall⟩ := mem_ready.1 hi; intro j oj hj hl e he hb
 by_cases hij : i = j
 · subst hij
   have : oj = oi := Option.some.inj (hj.symm.trans hoi); subst this; exact getD_set_true (hall e he hb)
 · rw [getD_set_ne false hij] at hl
   exact getD_set_true (h j oj hj hl e he hb)
theorem Region.yT {listed : Array Bool} {i : Nat} (hc : kN md ops listed) : ∀ (fuel d : Nat), Region.pR md ops i fuel d = true → listed.getD d false = true → listed.getD i false = true
 | 0, _, h, _ => by simp [Region.pR] at h
 | fuel + 1, d, h, hl => by
   unfold Region.pR at h
   cases ho : ops[d]? with
   | none => rw [ho] at h; simp at h
   | some o =>
     rw [ho] at h; obtain ⟨e, he, h1⟩ := Array.any_eq_true'.1 h; simp only [Bool.and_eq_true, Bool.or_eq_true, beq_iff_eq] at h1; have hle := hc d o ho hl e he h1.1
     rcases h1.2 with h2 | h2
     · rw [← h2]; exact hle
     · exact Region.yT hc fuel e.on h2 hle
theorem Region.B_ {listed : Array Bool} {i d fuel : Nat} (hc : kN md ops listed) (hr : Region.pR md ops i fuel d = true) (hun : listed.getD i true = false) : d ∉ Region.ready md ops listed := by
 intro hd; obtain ⟨_, o, ho, hall⟩ := mem_ready.1 hd
 have hi : listed.getD i false = true := by
  cases fuel with
  | zero => simp [Region.pR] at hr
  | succ n =>
    unfold Region.pR at hr
    rw [ho] at hr; obtain ⟨e, he, h1⟩ := Array.any_eq_true'.1 hr; simp only [Bool.and_eq_true, Bool.or_eq_true, beq_iff_eq] at h1; have hle := hall e he h1.1
    rcases h1.2 with h2 | h2
    · rw [← h2]; exact hle
    · exact Region.yT hc n e.on h2 hle
 rcases Nat.lt_or_ge i listed.size with h' | h'
 · simp [h'] at hun hi
   rw [hun] at hi
   cases hi
 · simp [Array.getElem?_eq_none h'] at hun
def dS (P : Program) (md : Region.Mode) (ops : Array Oper) (Q : Exit → Act → World → Prop) (S : World → Prop) (ds : List Nat) : Nat → Array Bool → Act → World → Prop
 | 0, listed, a, w => Region.ready md ops listed = [] ∧ Q .normal a w
 | fuel + 1, listed, a, w =>
   (Region.ready md ops listed = [] → Q .normal a w) ∧
   ∀ i ∈ Region.ready md ops listed, wpOp P ops Q i (fun a' w' => (i ∉ ds → S w → S w') ∧ dS P md ops Q S ds fuel (listed.setIfInBounds i true) a' w') a w
theorem xW : ∀ (fuel : Nat) (listed : Array Bool) (a : Act) (w : World), dS P md ops Q S ds fuel listed a w → wpAny P md ops Q fuel listed a w
 | 0, _, _, _, h => h
 | fuel + 1, _, _, _, h => ⟨h.1, fun i hi => wpOp_mono (fun a' w' h' => xW fuel _ a' w' h'.2) (h.2 i hi)⟩
theorem BV {i : Nat} {oi : Oper} {v : Value} (hi : ops[i]? = some oi) (hsel : ∀ (j : Nat) (o : Oper) cs b, ops[j]? = some o → o.op ≠ .select cs b)
 (hQ : ∀ c a w, Q (.panic c) (a.put oi.dst v) w → Q (.panic c) a w) (n : Nat) :
 ∀ (fuel : Nat) (listed : Array Bool) (a : Act) (w : World),
   (∀ j oj, ops[j]? = some oj → j ≠ i → listed.getD j true = false → (∀ e ∈ oj.after, Region.binds md e = true → e.on ≠ i) → oi.apart ops oj = true) →
   kN md ops listed → (∀ d ∈ ds, listed.getD d true = false → Region.pR md ops i n d = true) →
   i ∈ Region.ready md ops listed → YieldsIf P ops S oi v a → S w →
   dS P md ops Q S ds fuel (listed.setIfInBounds i true) (a.put oi.dst v) w → dS P md ops Q S ds (fuel + 1) listed a w := by
 intro fuel
 induction fuel with
 | zero =>
   intro listed a w _ _ _ hr hy hS H; refine ⟨fun h => (by rw [h] at hr; cases hr), fun j hj => ?_⟩
   by_cases hji : j = i
   · subst hji; exact hy.wpOp hi hS ⟨fun _ h => h, H⟩
   · have := ready_mono hj hji
     rw [H.1] at this
     cases this
 | succ fuel ih =>
   intro listed a w hfree hc hd hr hy hS H; refine ⟨fun h => (by rw [h] at hr; cases hr), fun j hj => ?_⟩
   by_cases hji : j = i
   · subst hji; exact hy.wpOp hi hS ⟨fun _ h => h, H⟩
   · have h1 := H.2 j (ready_mono hj hji)
     obtain ⟨hjun, oj, hoj, hall⟩ := mem_ready.1 hj; have Q3 := (mem_ready.1 hr).1
     have hnot : ∀ e ∈ oj.after, Region.binds md e = true → e.on ≠ i := fun e he hb heq => by
      have h1 := hall e he hb; rw [heq] at h1
      rcases Nat.lt_or_ge i listed.size with h' | h'
      · simp [h'] at Q3 h1; rw [Q3] at h1; cases h1
      · simp [Array.getElem?_eq_none h'] at h1
     have hjd : j ∉ ds := fun hm => Region.B_ hc (hd j hm hjun) Q3 hj
     have h2 := wpOp_putIf hoj (hfree j oj hoj hji hjun hnot) (fun cs b => hsel i oi cs b hi) (fun cs b => hsel j oj cs b hoj) hQ hy h1; have hfree' : ∀ k ok, ops[k]? = some ok → k ≠ i → (listed.setIfInBounds j true).getD k true = false →
      (∀ e ∈ ok.after, Region.binds md e = true → e.on ≠ i) → oi.apart ops ok = true := fun k ok hk hki hun hno => by
      refine hfree k ok hk hki ?_ hno
      by_cases hjk : j = k
      · subst hjk; exact hjun
      · rw [getD_set_ne true hjk] at hun; exact hun
     have hd' : ∀ d ∈ ds, (listed.setIfInBounds j true).getD d true = false → Region.pR md ops i n d = true := fun d hm hun => by
      refine hd d hm ?_
      by_cases hjk : j = d
      · subst hjk; exact hjun
      · rw [getD_set_ne true hjk] at hun; exact hun
     refine wpOp_mono (fun a' w' h3 => ⟨h3.2.1, ih (listed.setIfInBounds j true) a' w' hfree' (hc.set hj) hd' (ready_mono hr (Ne.symm hji)) h3.1 (h3.2.1 hjd hS) ?_⟩) h2
     rw [Array.setIfInBounds_comm _ _ hji]; exact h3.2.2
theorem Fb {i : Nat} {oi : Oper} {v : Value} (hi : ops[i]? = some oi) (hsel : ∀ (j : Nat) (o : Oper) cs b, ops[j]? = some o → o.op ≠ .select cs b)
 (hQ : ∀ c a w, Q (.panic c) (a.put oi.dst v) w → Q (.panic c) a w) :
 ∀ (fuel : Nat) (listed : Array Bool) (a : Act) (w : World),
   (∀ j oj, ops[j]? = some oj → j ≠ i → listed.getD j true = false → (∀ e ∈ oj.after, Region.binds md e = true → e.on ≠ i) → oi.apart ops oj = true) →
   i ∈ Region.ready md ops listed → Yields P ops oi v a →
   dS P md ops Q S ds fuel (listed.setIfInBounds i true) (a.put oi.dst v) w → dS P md ops Q S ds (fuel + 1) listed a w := by
 intro fuel
 induction fuel with
 | zero =>
   intro listed a w _ hr hy H; refine ⟨fun h => (by rw [h] at hr; cases hr), fun j hj => ?_⟩
   by_cases hji : j = i
   · subst hji; exact (hy.yieldsIf (S := fun _ => True)).wpOp hi trivial ⟨fun _ h => h, H⟩
   · have := ready_mono hj hji
     rw [H.1] at this
     cases this
 | succ fuel ih =>
   intro listed a w hfree hr hy H; refine ⟨fun h => (by rw [h] at hr; cases hr), fun j hj => ?_⟩
   by_cases hji : j = i
   · subst hji; exact (hy.yieldsIf (S := fun _ => True)).wpOp hi trivial ⟨fun _ h => h, H⟩
   · have h1 := H.2 j (ready_mono hj hji)
     obtain ⟨hjun, oj, hoj, hall⟩ := mem_ready.1 hj; have Q3 := (mem_ready.1 hr).1
     have hnot : ∀ e ∈ oj.after, Region.binds md e = true → e.on ≠ i := fun e he hb heq => by
      have h1 := hall e he hb; rw [heq] at h1
      rcases Nat.lt_or_ge i listed.size with h' | h'
      · simp [h'] at Q3 h1; rw [Q3] at h1; cases h1
      · simp [Array.getElem?_eq_none h'] at h1
     have h2 := wpOp_put hoj (hfree j oj hoj hji hjun hnot) (fun cs b => hsel i oi cs b hi) (fun cs b => hsel j oj cs b hoj) hQ hy h1; have hfree' : ∀ k ok, ops[k]? = some ok → k ≠ i → (listed.setIfInBounds j true).getD k true = false →
      (∀ e ∈ ok.after, Region.binds md e = true → e.on ≠ i) → oi.apart ops ok = true := fun k ok hk hki hun hno => by
      refine hfree k ok hk hki ?_ hno
      by_cases hjk : j = k
      · subst hjk; exact hjun
      · rw [getD_set_ne true hjk] at hun; exact hun
     refine wpOp_mono (fun a' w' h3 => ⟨h3.2.1, ih (listed.setIfInBounds j true) a' w' hfree' (ready_mono hr (Ne.symm hji)) h3.1 ?_⟩) h2
     rw [Array.setIfInBounds_comm _ _ hji]; exact h3.2.2
theorem Dn {i : Nat} {oi : Oper} {v : Value} {fuel : Nat} {listed : Array Bool} {a : Act} {w : World} (hi : ops[i]? = some oi)
 (hs : Region.noSelect ops = true) (hf : Region.free md ops listed i = true) (hr : (Region.ready md ops listed).contains i = true)
 (hc : Region.zo md ops listed = true) (hl : Region.lastB md ops listed ds i = true)
 (hQ : ∀ c a w, Q (.panic c) (a.put oi.dst v) w → Q (.panic c) a w) (hy : YieldsIf P ops S oi v a) (hS : S w)
 (h : dS P md ops Q S ds fuel (listed.setIfInBounds i true) (a.put oi.dst v) w) : dS P md ops Q S ds (fuel + 1) listed a w :=
 BV hi (Region.noSelect_spec hs) hQ ops.size fuel listed a w (Region.free_spec hi hf) (Region.Jm hc)
  (fun d hm hun => by have := List.all_eq_true.1 hl d hm; rw [hun] at this; simpa using this) (by simpa using hr) hy hS h
theorem Fe {rs : List Nat} {fuel : Nat} {listed : Array Bool} {a : Act} {w : World} (hr : Region.ready md ops listed = rs) (hne : rs ≠ [])
 (h : ∀ i ∈ rs, wpOp P ops Q i (fun a' w' => (i ∉ ds → S w → S w') ∧ dS P md ops Q S ds fuel (listed.setIfInBounds i true) a' w') a w) : dS P md ops Q S ds (fuel + 1) listed a w :=
 ⟨fun h0 => absurd (hr ▸ h0) hne, hr ▸ h⟩
theorem Dp {listed : Array Bool} {a : Act} {w : World} (hr : Region.ready md ops listed = []) (h : Q .normal a w) :
 ∀ fuel, dS P md ops Q S ds fuel listed a w
 | 0 => ⟨hr, h⟩
 | _ + 1 => ⟨fun _ => h, by rw [hr]; simp⟩
theorem Dk {id : Nat} {a : Act} {w : World} (hm : P.follows .mixedOrders = true)
 (h : dS P .any ops Q S ds ops.size (Array.replicate ops.size false) a { w with drawn := w.drawn + 1 }) : (Code.region id ops true).wp P Q a w :=
 wp_region_any hm (xW _ _ _ _ h)
end
section
variable {P : Program} {ops : Array Oper} {Q : Exit → Act → World → Prop} {md : Region.Mode} {S : World → Prop} {ds : List Nat}
def jk (P : Program) (md : Region.Mode) (ops : Array Oper) (Q : Exit → Act → World → Prop) (S : World → Prop) (ds : List Nat) (fuel : Nat) (listed : Array Bool) (a : Act) (w : World) (rs : List Nat) : Prop :=
 ∀ i ∈ rs, wpOp P ops Q i (fun a' w' => (i ∉ ds → S w → S w') ∧ dS P md ops Q S ds fuel (listed.setIfInBounds i true) a' w') a w
theorem jk.nil {fuel : Nat} {listed : Array Bool} {a : Act} {w : World} : jk P md ops Q S ds fuel listed a w [] := fun _ h => by cases h
theorem jk.cons {fuel : Nat} {listed : Array Bool} {a : Act} {w : World} {i : Nat} {o : Oper} {rs : List Nat} (ho : ops[i]? = some o) (hd : i ∉ ds)
 (h : ∀ K' : Act → World → Prop, Shut (∀ a w, S w → (S w → dS P md ops Q S ds fuel (listed.setIfInBounds i true) a w) → K' a w) → if Region.wanted o (yielded ops a.tmps) = true then Oper.wp P o a w K' Q else K' (a.put o.dst undef) w)
 (hs : jk P md ops Q S ds fuel listed a w rs) : jk P md ops Q S ds fuel listed a w (i :: rs) := fun j hj => by
 rcases List.mem_cons.1 hj with rfl | hj
 · exact wpOp_step ho (fun K' hK => h K' (fun a w hS hW => hK a w ⟨fun _ _ => hS, hW hS⟩))
 · exact hs j hj
theorem jk.Ry {fuel : Nat} {listed : Array Bool} {a : Act} {w : World} {i : Nat} {o : Oper} {rs : List Nat} (ho : ops[i]? = some o) (hd : i ∈ ds)
 (h : ∀ K' : Act → World → Prop, Shut (∀ a w, dS P md ops Q S ds fuel (listed.setIfInBounds i true) a w → K' a w) → if Region.wanted o (yielded ops a.tmps) = true then Oper.wp P o a w K' Q else K' (a.put o.dst undef) w)
 (hs : jk P md ops Q S ds fuel listed a w rs) : jk P md ops Q S ds fuel listed a w (i :: rs) := fun j hj => by
 rcases List.mem_cons.1 hj with rfl | hj
 · exact wpOp_step ho (fun K' hK => h K' (fun a w hW => hK a w ⟨fun hn => absurd hd hn, hW⟩))
 · exact hs j hj
theorem uS {rs : List Nat} {fuel : Nat} {listed : Array Bool} {a : Act} {w : World} (hr : Region.ready md ops listed = rs) (hne : rs ≠ [])
 (h : jk P md ops Q S ds fuel listed a w rs) : dS P md ops Q S ds (fuel + 1) listed a w := Fe hr hne h
theorem zU {id n : Nat} {a : Act} {w : World} (l : Array Bool) (hm : P.follows .mixedOrders = true) (hn : ops.size = n) (hl : Array.replicate n false = l) (hS : S w.drew)
 (h : S w.drew → dS P .any ops Q S ds n l a w.drew) : (Code.region id ops true).wp P Q a w := by
 subst hn; subst hl; exact Dk hm (h hS)
def takeB (md : Region.Mode) (ops : Array Oper) (ds : List Nat) (l l' : Array Bool) (i : Nat) : Bool :=
 Region.noSelect ops && Region.free md ops l i && (Region.ready md ops l).contains i && Region.zo md ops l && Region.lastB md ops l ds i && (l.setIfInBounds i true == l')
theorem pq {i : Nat} {N : Option Tmp} {oi : Oper} {v : Value} {fuel : Nat} {l : Array Bool} {a : Act} {w : World} (l' : Array Bool) (hi : ops[i]? = some oi) (hN : oi.dst = N) (hc : takeB md ops ds l l' i = true)
 (hQ : ∀ c a w, Q (.panic c) (a.put oi.dst v) w → Q (.panic c) a w) (hy : YieldsIf P ops S oi v a) (hS : S w) {a' : Act} (ha : a.put N v = a')
 (h : dS P md ops Q S ds fuel l' a' w) : dS P md ops Q S ds (fuel + 1) l a w := by
 subst ha; subst hN; simp only [takeB, Bool.and_eq_true, beq_iff_eq] at hc; obtain ⟨⟨⟨⟨⟨h1, h2⟩, h3⟩, h4⟩, h5⟩, h6⟩ := hc; subst h6; exact Dn hi h1 h2 h3 h4 h5 hQ hy hS h
def Xa (md : Region.Mode) (ops : Array Oper) (l l' : Array Bool) (i : Nat) : Bool :=
 Region.noSelect ops && Region.free md ops l i && (Region.ready md ops l).contains i && (l.setIfInBounds i true == l')
theorem fG {i : Nat} {N : Option Tmp} {oi : Oper} {v : Value} {fuel : Nat} {l : Array Bool} {a : Act} {w : World} (l' : Array Bool) (hi : ops[i]? = some oi) (hN : oi.dst = N) (hc : Xa md ops l l' i = true)
 (hQ : ∀ c a w, Q (.panic c) (a.put oi.dst v) w → Q (.panic c) a w) (hy : Yields P ops oi v a) {a' : Act} (ha : a.put N v = a')
 (h : dS P md ops Q S ds fuel l' a' w) : dS P md ops Q S ds (fuel + 1) l a w := by
 subst ha; subst hN; simp only [Xa, Bool.and_eq_true, beq_iff_eq] at hc; obtain ⟨⟨⟨h1, h2⟩, h3⟩, h6⟩ := hc; subst h6; exact Fb hi (Region.noSelect_spec h1) hQ fuel l a w (Region.free_spec hi h2) (by simpa using h3) hy h
def zY (md : Region.Mode) (ops : Array Oper) (l l' : Array Bool) (i : Nat) : Bool := (Region.ready md ops l == [i]) && (l.setIfInBounds i true == l')
theorem yV {i : Nat} {N : Option Tmp} {oi : Oper} {fuel : Nat} {l : Array Bool} {a : Act} {w : World} (l' : Array Bool) (hi : ops[i]? = some oi) (hN : oi.dst = N) (hc : zY md ops l l' i = true) (hd : i ∉ ds)
 (h : ∀ K : Act → World → Prop, Shut (∀ a' w', S w' → (S w' → dS P md ops Q S ds fuel l' a' w') → K a' w') → if Region.wanted oi (yielded ops a.tmps) = true then Oper.wp P oi a w K Q else K (a.put N undef) w) :
 dS P md ops Q S ds (fuel + 1) l a w := by
 subst hN; simp only [zY, Bool.and_eq_true, beq_iff_eq] at hc; obtain ⟨h1, h2⟩ := hc; subst h2; exact uS h1 (by simp) (jk.cons hi hd (fun K hK => h K hK) jk.nil)
theorem XF {i : Nat} {N : Option Tmp} {oi : Oper} {fuel : Nat} {l : Array Bool} {a : Act} {w : World} (l' : Array Bool) (hi : ops[i]? = some oi) (hN : oi.dst = N) (hc : zY md ops l l' i = true) (hd : i ∈ ds)
 (h : ∀ K : Act → World → Prop, Shut (∀ a' w', dS P md ops Q S ds fuel l' a' w' → K a' w') → if Region.wanted oi (yielded ops a.tmps) = true then Oper.wp P oi a w K Q else K (a.put N undef) w) :
 dS P md ops Q S ds (fuel + 1) l a w := by
 subst hN; simp only [zY, Bool.and_eq_true, beq_iff_eq] at hc; obtain ⟨h1, h2⟩ := hc; subst h2; exact uS h1 (by simp) (jk.Ry hi hd (fun K hK => h K hK) jk.nil)
theorem Gt {l : Array Bool} {a : Act} {w : World} {n : Nat} (hr : (Region.ready md ops l == []) = true) (h : Q .normal a w) : dS P md ops Q S ds n l a w := Dp (by simpa using hr) h n
theorem uU {fuel : Nat} {l : Array Bool} {a a' : Act} {w : World} (ha : a = a') (h : dS P md ops Q S ds fuel l a' w) : dS P md ops Q S ds fuel l a w := by
 subst ha; exact h
theorem call_ {oi : Oper} {N : Option Tmp} {a : Act} {w : World} {K : Act → World → Prop} (f : FuncId) (args : Array Value) (hw : Region.wanted oi (yielded ops a.tmps) = true) (hN : oi.dst = N) (hrun : (execOp a.eval oi).run P w = .ok (.enter f args) w)
 (h : Calls P f args w fun e w' => ∃ v, e = .returned v ∧ K (a.put N v) w') : if Region.wanted oi (yielded ops a.tmps) = true then Oper.wp P oi a w K Q else K (a.put N undef) w := by
 rw [if_pos hw]; subst hN
 unfold Oper.wp
 rw [hrun, Oper.upon_enter]; refine h.mono fun e w'' hh => ?_
 obtain ⟨v, rfl, hk⟩ := hh; exact hk
theorem PK {f : FuncId} {fn : Func} (hf : P.funcs[f]? = some fn) (hname : (fn.name == "runtime.NumGoroutine") = false) (hb : fn.body.isSome = true) (args : Array Value) (w : World) : (callFunc f args).run P w = .ok (.enter f args) w := by
 have h1 : fn.name ≠ "runtime.NumGoroutine" := by simpa using hname
 obtain ⟨c, hc⟩ := Option.isSome_iff_exists.1 hb
 simp [callFunc, hf, h1, hc]
theorem yh {oi : Oper} {N : Option Tmp} {a : Act} {w : World} {K : Act → World → Prop} {f : FuncId} {fn : Func} {as : Array Operand} {ts : Array TypeId} (hf : P.funcs[f]? = some fn) (hname : (fn.name == "runtime.NumGoroutine") = false) (hb : fn.body.isSome = true) (args : Array Value)
 (hw : Region.wanted oi (yielded ops a.tmps) = true) (hN : oi.dst = N) (hop : oi.op = .call { callee := .value (.func f), args := as, argTypes := ts }) (hargs : as.map a.eval = args)
 (h : Calls P f args w fun e w' => ∃ v, e = .returned v ∧ K (a.put N v) w') : if Region.wanted oi (yielded ops a.tmps) = true then Oper.wp P oi a w K Q else K (a.put N undef) w := by
 refine call_ f args hw hN ?_ h
 have he := PK hf hname hb args w
 unfold execOp
 simp [hop, resolve, Deferred.ofValue, invoke, Act.eval, hargs, he]
theorem bF {rest : List Oper} {oi : Oper} {a : Act} {w : World} (N : Option Tmp) (hd : oi.dst = N) (hg : oi.guard = none) {f : FuncId} {fn : Func} {as : Array Operand} {ts : Array TypeId} (hf : P.funcs[f]? = some fn) (hname : (fn.name == "runtime.NumGoroutine") = false) (hb : fn.body.isSome = true) (args : Array Value)
 (hop : oi.op = .call { callee := .value (.func f), args := as, argTypes := ts }) (hargs : as.map a.eval = args)
 (h : Calls P f args w fun e w' => ∃ v, e = .returned v ∧ wpList P ops Q rest (a.put N v) w') : wpList P ops Q (oi :: rest) a w := by
 refine wpList_plain hg fun K hK => ?_
 have he := PK hf hname hb args w
 have hrun : (execOp a.eval oi).run P w = .ok (.enter f args) w := by
  unfold execOp
  simp [hop, resolve, Deferred.ofValue, invoke, Act.eval, hargs, he]
 unfold Oper.wp
 rw [hrun, Oper.upon_enter]; refine h.mono fun e w'' hh => ?_
 obtain ⟨v, rfl, hk⟩ := hh; subst hd; exact hK _ _ hk
theorem OE {oi : Oper} {a : Act} {w w1 : World} {K : Act → World → Prop} (hw : Region.wanted oi (yielded ops a.tmps) = true) (hN : oi.dst = none) (hrun : (execOp a.eval oi).run P w = .ok .skip w1)
 (h : K a w1) : if Region.wanted oi (yielded ops a.tmps) = true then Oper.wp P oi a w K Q else K (a.put none undef) w := by
 rw [if_pos hw]
 unfold Oper.wp
 rw [hrun]; show K (a.put oi.dst undef) w1; rw [hN]; exact h
theorem bT (n : Int) : IntKind.i64.wrap n = Go.RowKit.wrap64 n := by unfold Go.RowKit.wrap64; exact IntKind.wrap_i64 n
theorem b_ (n : Int) : IntKind.i32.wrap n = Go.RowKit.wrap32 n := by unfold Go.RowKit.wrap32; exact IntKind.wrap_i32 n
end
end Go.Proofs.af.a_

namespace Go.Proofs.af.a_
open Go.Proofs.af.aU (aj)
def wZ (md : Region.Mode) (o : Oper) : List Nat := (o.after.toList.filter (fun e => Region.binds md e)).map (fun e => e.on)
def Jn (md : Region.Mode) (ops : Array Oper) (i : Nat) (oi : Oper) : List Nat := (List.range ops.size).filter fun j => !(j == i) && match ops[j]? with
 | some oj => !(oj.after.any (fun e => Region.binds md e && e.on == i) || oi.apart ops oj)
 | none => false
def pO (md : Region.Mode) (ops : Array Oper) : Bool × List (List Nat × List Nat) := (Region.noSelect ops, (List.range ops.size).map fun i => match ops[i]? with
 | some o => (wZ md o, Jn md ops i o)
 | none => ([], []))
def rO (T : List (List Nat × List Nat)) (l : List Bool) (i : Nat) : Bool := !l.getD i true && match T[i]? with
 | some r => r.1.all (fun j => l.getD j false)
 | none => false
def Dy (T : List (List Nat × List Nat)) (l : List Bool) : List Nat := (List.range T.length).filter (rO T l)
def KE (T : List (List Nat × List Nat)) (l : List Bool) (i : Nat) : Bool := match T[i]? with
 | some r => r.2.all (fun j => l.getD j true)
 | none => false
def Dh (T : List (List Nat × List Nat)) (l : List Bool) : Bool := (List.range T.length).all fun j => !l.getD j false || match T[j]? with
 | some r => r.1.all (fun k => l.getD k false)
 | none => true
def zZ (T : List (List Nat × List Nat)) (i : Nat) : Nat → Nat → Bool
 | 0, _ => false
 | fuel + 1, d => match T[d]? with
   | some r => r.1.any fun j => j == i || zZ T i fuel j
   | none => false
def lastT (T : List (List Nat × List Nat)) (l : List Bool) (ds : List Nat) (i : Nat) : Bool := ds.all fun d => l.getD d true || zZ T i T.length d
section
variable {md : Region.Mode} {ops : Array Oper} {T : Bool × List (List Nat × List Nat)} {l l' li lj lk : Array Bool} {ds : List Nat} {i j k : Nat}
theorem gd (l : Array Bool) (j : Nat) (b : Bool) : l.getD j b = l.toList.getD j b := by simp [Array.getD_eq_getD_getElem?, List.getD_eq_getElem?_getD]
theorem Gg (o : Oper) (p : Nat → Bool) : o.after.all (fun e => !Region.binds md e || p e.on) = (wZ md o).all p := by
 unfold wZ
 rw [← Array.all_toList]
 induction o.after.toList with
 | nil => rfl
 | cons e r ih =>
   rw [List.all_cons, ih, List.filter_cons]
   cases h : Region.binds md e <;> simp
theorem QM (o : Oper) (p : Nat → Bool) : o.after.any (fun e => Region.binds md e && p e.on) = (wZ md o).any p := by
 unfold wZ
 rw [← Array.any_toList]
 induction o.after.toList with
 | nil => rfl
 | cons e r ih =>
   rw [List.any_cons, ih, List.filter_cons]
   cases h : Region.binds md e <;> simp
theorem rM : (pO md ops).2.length = ops.size := by simp [pO]
theorem wX {o : Oper} (h : ops[i]? = some o) : (pO md ops).2[i]? = some (wZ md o, Jn md ops i o) := by
 have hi := (Array.getElem?_eq_some_iff.1 h).1
 unfold pO
 rw [List.getElem?_map, List.getElem?_range hi, Option.map_some, h]
theorem wY (h : ops[i]? = none) : (pO md ops).2[i]? = none := by
 have hi : ops.size ≤ i := Array.getElem?_eq_none_iff.1 h; exact List.getElem?_eq_none (by rw [rM]; exact hi)
theorem L8 : rO (pO md ops).2 l.toList i = (!l.getD i true && ((ops[i]?).map (·.after.all fun e => !Region.binds md e || l.getD e.on false)).getD false) := by
 unfold rO
 rw [gd]
 cases h : ops[i]? with
 | none => rw [wY h]; rfl
 | some o =>
   rw [wX h]; simp only [Option.map_some, Option.getD_some]; rw [← Gg]; simp only [gd]
theorem ready_eq : Region.ready md ops l = Dy (pO md ops).2 l.toList := by
 unfold Region.ready Dy
 rw [rM]; refine List.filter_congr (fun i _ => ?_)
 rw [L8]
theorem free_eq : Region.free md ops l i = KE (pO md ops).2 l.toList i := by
 unfold Region.free KE
 cases h : ops[i]? with
 | none => rw [wY h]
 | some oi =>
   rw [wX h]; simp only [Jn]; rw [List.all_filter]
   congr 1
   funext j
   rw [gd]
   cases hj : ops[j]? with
   | none => cases (j == i) <;> cases (l.toList.getD j true) <;> simp
   | some oj =>
     cases (j == i) <;> cases (l.toList.getD j true) <;> cases (oj.after.any (fun e => Region.binds md e && e.on == i) || oi.apart ops oj) <;> simp_all
theorem closed_eq : Region.zo md ops l = Dh (pO md ops).2 l.toList := by
 unfold Region.zo Dh
 rw [rM]
 congr 1
 funext j
 rw [gd]
 cases h : ops[j]? with
 | none => rw [wY h]
 | some o =>
   rw [wX h]; simp only; rw [← Gg]; simp only [gd]
theorem reach_eq : ∀ (fuel d : Nat), Region.pR md ops i fuel d = zZ (pO md ops).2 i fuel d
 | 0, _ => rfl
 | fuel + 1, d => by
   unfold Region.pR zZ
   cases h : ops[d]? with
   | none => rw [wY h]
   | some o =>
     rw [wX h]; simp only; rw [← QM]
     congr 1
     funext e
     rw [reach_eq fuel]
theorem last_eq : Region.lastB md ops l ds i = lastT (pO md ops).2 l.toList ds i := by
 unfold Region.lastB lastT
 rw [rM]
 congr 1
 funext d
 rw [gd, reach_eq]
theorem Bj (h : rO T.2 l.toList i = true) (hT : pO md ops = T) : (Region.ready md ops l).contains i = true := by
 subst hT; rw [ready_eq]
 unfold Dy
 rw [List.contains_iff_mem, List.mem_filter, List.mem_range]; refine ⟨?_, h⟩
 unfold rO at h
 rw [Bool.and_eq_true] at h
 cases hq : (pO md ops).2[i]? with
 | none => rw [hq] at h; simp at h
 | some r => exact (List.getElem?_eq_some_iff.1 hq).1
theorem LV (h : (l.toList.set i true == l'.toList) = true) : (l.setIfInBounds i true == l') = true := by
 rw [beq_iff_eq] at h ⊢
 apply Array.ext'
 rw [Array.toList_setIfInBounds]; exact h
def abJ (T : Bool × List (List Nat × List Nat)) (l l' : List Bool) (i : Nat) : Bool := T.1 && KE T.2 l i && rO T.2 l i && (l.set i true == l')
theorem dM (hT : pO md ops = T) (h : abJ T l.toList l'.toList i = true) : Xa md ops l l' i = true := by
 simp only [abJ, Bool.and_eq_true] at h; obtain ⟨⟨⟨h1, h2⟩, h3⟩, h4⟩ := h; have h5 := Bj h3 hT; have h6 := LV h4; subst hT; simp only [Xa, Bool.and_eq_true]; exact ⟨⟨⟨h1, by rw [free_eq]; exact h2⟩, h5⟩, h6⟩
def SQ (T : Bool × List (List Nat × List Nat)) (ds : List Nat) (l l' : List Bool) (i : Nat) : Bool := T.1 && KE T.2 l i && rO T.2 l i && Dh T.2 l && lastT T.2 l ds i && (l.set i true == l')
theorem Vo (hT : pO md ops = T) (h : SQ T ds l.toList l'.toList i = true) : takeB md ops ds l l' i = true := by
 simp only [SQ, Bool.and_eq_true] at h; obtain ⟨⟨⟨⟨⟨h1, h2⟩, h3⟩, h4⟩, h5⟩, h6⟩ := h; have h7 := Bj h3 hT; have h8 := LV h6; subst hT; simp only [takeB, Bool.and_eq_true]; exact ⟨⟨⟨⟨⟨h1, by rw [free_eq]; exact h2⟩, h7⟩, by rw [closed_eq]; exact h4⟩, by rw [last_eq]; exact h5⟩, h8⟩
theorem mG (hT : pO md ops = T) (h : (Dy T.2 l.toList == [i] && l.toList.set i true == l'.toList) = true) : zY md ops l l' i = true := by
 simp only [Bool.and_eq_true] at h; obtain ⟨h1, h2⟩ := h; subst hT; simp only [zY, Bool.and_eq_true]; exact ⟨by rw [ready_eq]; exact h1, LV h2⟩
theorem xK (hT : pO md ops = T) (h : (Dy T.2 l.toList == []) = true) : (Region.ready md ops l == []) = true := by
 subst hT; rw [ready_eq]; exact h
def Yt (B : List Nat) (d : Nat) : List Nat → Nat
 | [] => 0
 | n :: r => (2 ^ n ||| (if n < d then B.getD n 0 else 0)) ||| Yt B d r
def qc (T : List (List Nat × List Nat)) (B : List Nat) : Bool := (List.range T.length).all fun d => match T[d]? with
 | some r => (B.getD d 0 ||| Yt B d r.1) == Yt B d r.1
 | none => false
theorem Oz {B : List Nat} {d i : Nat} : ∀ {ns : List Nat}, (Yt B d ns).testBit i = true → ∃ n ∈ ns, n = i ∨ (n < d ∧ (B.getD n 0).testBit i = true)
 | [], h => by simp [Yt] at h
 | n :: r, h => by
   unfold Yt at h
   rw [Nat.testBit_or, Nat.testBit_or, Bool.or_eq_true, Bool.or_eq_true] at h
   rcases h with (h | h) | h
   · rw [Nat.testBit_two_pow] at h
     exact ⟨n, List.mem_cons_self, .inl (by simpa using h)⟩
   · by_cases hn : n < d
     · rw [if_pos hn] at h
       exact ⟨n, List.mem_cons_self, .inr ⟨hn, h⟩⟩
     · rw [if_neg hn] at h
       simp at h
   · obtain ⟨m, hm, h2⟩ := Oz h
     exact ⟨m, List.mem_cons_of_mem _ hm, h2⟩
theorem F9 {T : List (List Nat × List Nat)} {B : List Nat} (hB : qc T B = true) : ∀ (fuel d : Nat), d < fuel → d < T.length → (B.getD d 0).testBit i = true → zZ T i fuel d = true
 | 0, d, h, _, _ => by omega
 | fuel + 1, d, h, hd, hb => by
   have h1 := List.all_eq_true.1 hB d (List.mem_range.2 hd)
   cases hr : T[d]? with
   | none => rw [hr] at h1; simp at h1
   | some r =>
     rw [hr] at h1; simp only [beq_iff_eq] at h1
     have h2 : (Yt B d r.1).testBit i = true := by rw [← h1, Nat.testBit_or, hb, Bool.true_or]
     obtain ⟨n, hn, h3⟩ := Oz h2
     unfold zZ
     rw [hr]; simp only; rw [List.any_eq_true]; refine ⟨n, hn, ?_⟩
     rcases h3 with rfl | ⟨h4, h5⟩
     · simp
     · rw [F9 hB fuel n (by omega) (by omega) h5, Bool.or_true]
def XH (T : List (List Nat × List Nat)) (B : List Nat) (l : List Bool) (ds : List Nat) (i : Nat) : Bool := ds.all fun d => l.getD d true || (decide (d < T.length) && (B.getD d 0).testBit i)
def XC (T : Bool × List (List Nat × List Nat)) (B : List Nat) (ds : List Nat) (l l' : List Bool) (i : Nat) : Bool := T.1 && KE T.2 l i && rO T.2 l i && Dh T.2 l && XH T.2 B l ds i && (l.set i true == l')
theorem iR {B : List Nat} (hT : pO md ops = T) (hB : qc T.2 B = true) (h : XC T B ds l.toList l'.toList i = true) : takeB md ops ds l l' i = true := by
 refine Vo hT ?_
 simp only [XC, SQ, Bool.and_eq_true] at h ⊢; obtain ⟨⟨⟨⟨⟨h1, h2⟩, h3⟩, h4⟩, h5⟩, h6⟩ := h; refine ⟨⟨⟨⟨⟨h1, h2⟩, h3⟩, h4⟩, ?_⟩, h6⟩
 unfold XH at h5
 unfold lastT
 rw [List.all_eq_true] at h5 ⊢; intro d hd; have h7 := h5 d hd; rw [Bool.or_eq_true, Bool.and_eq_true, decide_eq_true_eq] at h7
 rcases h7 with h7 | ⟨h8, h9⟩
 · rw [h7, Bool.true_or]
 · rw [F9 hB _ d h8 h8 h9, Bool.or_true]
theorem qA {P : Program} {Q : Exit → Act → World → Prop} {S : World → Prop} {n : Nat} {a : Act} {w : World} {B : List Nat} (hT : pO md ops = T) (hB : qc T.2 B = true) (h : aj (pO md ops = T) → aj (qc T.2 B = true) → dS P md ops Q S ds n l a w) : dS P md ops Q S ds n l a w := h ⟨hT⟩ ⟨hB⟩
end
def x_ : Code → Nat → Option (Array Oper)
 | .region id ops _, k => if id == k then some ops else none
 | .seq a b, k => match x_ a k with
   | some o => some o
   | none => x_ b k
 | .cond _ a b, k => match x_ a k with
   | some o => some o
   | none => x_ b k
 | .block _ c, k => x_ c k
 | .loop c, k => x_ c k
 | .scope c, k => x_ c k
 | .rangeFunc _ _ a b, k => match x_ a k with
   | some o => some o
   | none => x_ b k
 | _, _ => none
def opsOf (f : Func) (k : Nat) : Array Oper := ((f.body.bind fun c => x_ c k)).getD #[]
end Go.Proofs.af.a_

namespace Go.Proofs.af.aU
open Go.RowKit
namespace Kd
def tag {α : Type} (f : Nat → Nat) (d : Kd α) : Kd (α × Nat) where
 sz := d.sz
 E := d.E
 K := fun w x cs => d.K w x.1 cs
 M := fun w base ok x cs => d.M w base (fun k => ok k ∧ f k = x.2) x.1 cs
 wK := fun h => d.wK h
 u_ := fun h => d.u_ h
 pg := fun hb h => d.pg hb h
 lT := fun h => d.lT h
 kM := fun hok h => d.kM (fun k hk => ⟨hok k hk.1, hk.2⟩) h
 jS := fun h => d.kM (fun _ hk => ⟨⟨hk.1.1, hk.2⟩, hk.1.2⟩) (d.jS h)
 o9 := fun hm h => d.o9 (fun k hk => hm k hk.1) h
 o_ := fun hb h => d.o_ hb h
def raw (sz : Nat) : Kd (List Value) where
 sz := sz
 E := []
 K := fun _ x cs => cs = x ∧ cs.length = sz ∧ ∀ u ∈ cs, u.oneCell' = true
 M := fun _ _ _ x cs => cs = x ∧ cs.length = sz ∧ ∀ u ∈ cs, u.oneCell' = true
 wK := fun h => h.2.1
 u_ := fun h => h.2.2
 pg := fun _ h => h
 lT := fun h => h
 kM := fun _ h => h
 jS := fun h => h
 o9 := fun _ h => h
 o_ := fun _ h => h
def S {α : Type} (d : Kd α) (e : Nat) (w : World) (base : Nat) (ok : Nat → Prop) (v : Value) (xs : List α) : Prop := ∃ f, (tag f d).R e w base ok v xs.zipIdx
section
variable {α β : Type} {d : Kd α} {d' : Kd β} {e e' : Nat} {w w1 W : World} {base b : Nat} {ok ok' okv oku : Nat → Prop} {u v : Value} {xs : List α} {ys : List β}
theorem P8 (hE : d.E = []) (h : d.R e w base ok v xs) : d.R e w base (fun k => some k = v.ownBlock) v xs := by
 obtain ⟨h0, inner, ho, hr⟩ := h; refine ⟨fun k hk => hk.symm, inner, ho, hr.qP (fun p c hp => d.kM (fun k hk => ?_) (d.jS hp))⟩
 obtain ⟨_, _, _, q, hq, _⟩ := hk; rw [hE] at hq
 cases hq
theorem zH (d : Kd α) (e : Nat) (w : World) (base : Nat) (ok : Nat → Prop) : S d e w base ok (.slice none 0 0) [] := ⟨fun _ => 0, t_ _ _ _ _ _⟩
end
def gap {α : Type} (f : Nat → Nat) (d : Kd α) (i : Nat) (c : List Value) : Kd (α × Nat) where
 sz := d.sz
 E := d.E
 K := fun w x cs => (x.2 = i → cs = c ∧ cs.length = d.sz ∧ ∀ u ∈ cs, u.oneCell' = true) ∧ (x.2 ≠ i → d.K w x.1 cs)
 M := fun w base ok x cs => (x.2 = i → cs = c ∧ cs.length = d.sz ∧ ∀ u ∈ cs, u.oneCell' = true) ∧ (x.2 ≠ i → d.M w base (fun k => ok k ∧ f k = x.2) x.1 cs)
 wK := fun {w x cs} h => by
  by_cases hx : x.2 = i
  · exact (h.1 hx).2.1
  · exact d.wK (h.2 hx)
 u_ := fun {w x cs} h => by
  by_cases hx : x.2 = i
  · exact (h.1 hx).2.2
  · exact d.u_ (h.2 hx)
 pg := fun hb h => ⟨h.1, fun hx => d.pg hb (h.2 hx)⟩
 lT := fun h => ⟨h.1, fun hx => d.lT (h.2 hx)⟩
 kM := fun hok h => ⟨h.1, fun hx => d.kM (fun k hk => ⟨hok k hk.1, hk.2⟩) (h.2 hx)⟩
 jS := fun h => ⟨h.1, fun hx => d.kM (fun _ hk => ⟨⟨hk.1.1, hk.2⟩, hk.1.2⟩) (d.jS (h.2 hx))⟩
 o9 := fun hm h => ⟨h.1, fun hx => d.o9 (fun k hk => hm k hk.1) (h.2 hx)⟩
 o_ := fun hb h => ⟨h.1, fun hx => d.o_ hb (h.2 hx)⟩
def H {α : Type} (d : Kd α) (e : Nat) (w : World) (base : Nat) (ok : Nat → Prop) (v : Value) (xs : List α) (i : Int) (oki : Nat → Prop) (c : List Value) : Prop :=
 (∀ k, oki k → ok k) ∧ ∃ f, (gap f d i.toNat c).R e w base (fun k => ok k ∧ ¬ oki k) v xs.zipIdx
end Kd
end Go.Proofs.af.aU

namespace Go.Proofs.af.aU
open Go.RowKit
namespace Kd
theorem SY {α : Type} {R : α → List Value → Prop} {size : Nat} {ps : List α} {cs : List Value} (h : fP R size ps cs) (hs0 : 0 < size) (hR : ∀ p c, R p c → ∀ u ∈ c, u.oneCell' = true) : ∀ u ∈ cs, u.oneCell' = true := by
 intro u hu; obtain ⟨q, hq, rfl⟩ := List.mem_iff_getElem.1 hu
 have hql : q / size < ps.length := by
  rw [Nat.div_lt_iff_lt_mul hs0, ← h.1]; exact hq
 refine hR _ _ (h.2 (q / size) _ (List.getElem?_eq_getElem hql)) _ ?_
 rw [List.mem_iff_getElem?]; refine ⟨q % size, ?_⟩
 rw [List.getElem?_take, if_pos (Nat.mod_lt _ hs0), List.getElem?_drop, Nat.mul_comm, Nat.div_add_mod, List.getElem?_eq_getElem hq]
def arr {α : Type} (n : Nat) (d : Kd α) (hs : 0 < d.sz) : Kd (List α) where
 sz := n * d.sz
 E := d.E
 K := fun w xs cs => xs.length = n ∧ fP (d.K w) d.sz xs cs
 M := fun w base ok xs cs => xs.length = n ∧ fP (d.M w base ok) d.sz xs cs
 wK := fun h => by rw [← h.1]; exact h.2.1
 u_ := fun h => SY h.2 hs (fun _ _ hk => d.u_ hk)
 pg := fun hb h => ⟨h.1, h.2.qP (fun _ _ hk => d.pg hb hk)⟩
 lT := fun h => ⟨h.1, h.2.qP (fun _ _ hk => d.lT hk)⟩
 kM := fun hok h => ⟨h.1, h.2.qP (fun _ _ hk => d.kM hok hk)⟩
 jS := fun h => ⟨h.1, h.2.qP (fun _ _ hk => d.jS hk)⟩
 o9 := fun hm h => ⟨h.1, h.2.qP (fun _ _ hk => d.o9 hm hk)⟩
 o_ := fun hb h => ⟨h.1, h.2.qP (fun _ _ hk => d.o_ hb hk)⟩
end Kd
end Go.Proofs.af.aU

namespace Go.Proofs.af.aU
open Go.RowKit
def Kept (w W : World) (S : Nat → Prop) : Prop := w.heap.size ≤ W.heap.size ∧ ∀ i, i < w.heap.size → ¬ S i → W.heap[i]? = w.heap[i]?
section
variable {w W W2 : World} {S S2 S' : Nat → Prop}
theorem Kept.refl (w : World) (S : Nat → Prop) : Kept w w S := ⟨Nat.le_refl _, fun _ _ _ => rfl⟩
theorem Kept.of_below (h : Below w.heap.size w W) (S : Nat → Prop) : Kept w W S := ⟨h.size, fun i hi _ => h.block i hi⟩
theorem Kept.XA (h : Kept w W S) (k : Kept W W2 S2) (hs : ∀ k, S2 k → S k ∨ w.heap.size ≤ k) : Kept w W2 S :=
 ⟨Nat.le_trans h.1 k.1, fun i hi hn => (k.2 i (Nat.lt_of_lt_of_le hi h.1) (fun h2 => (hs i h2).elim hn (fun h3 => by omega))).trans (h.2 i hi hn)⟩
theorem Kept.below (h : Kept w W S) (hb : Below W.heap.size W W2) : Kept w W2 S := h.XA (Kept.of_below hb (fun _ => False)) (fun _ hk => hk.elim)
theorem Kept.alloc (h : Kept w W S) (o : Obj) : Kept w (W.alloc o) S := h.below (ak (Below.refl _ _) o)
theorem Kept.drew (h : Kept w W S) : Kept w W.drew S := h
theorem Kept.drewN (h : Kept w W S) (m : Nat) : Kept w (W.drewN m) S := h
theorem Kept.setCell (h : Kept w W S) {p : Addr} (hp : S p.block ∨ w.heap.size ≤ p.block) (u : Value) : Kept w (W.setCell p u) S :=
 h.XA (S2 := fun k => k = p.block) ⟨by simp [World.setCell], fun i _ hn => Below.heap_setCell W p u i hn⟩ (fun k hk => by rw [hk]; exact hp)
theorem tZ {g : Nat} {o : Obj} (hb : W.heap[g]? = some o) (hk : Kept W W2 S) (hne : ¬ S g) : W2.heap[g]? = some o := (hk.2 g (fB hb) hne).trans hb
end
namespace Kd
section
variable {α : Type} {d : Kd α} {e base n c : Nat} {ok oki S S2 : Nat → Prop} {w w0 W W1 W2 : World} {v : Value} {A : Option Addr} {xs : List α} {i : Int} {cs : List Value}
theorem ZF (h : d.R e W base ok v xs) (hk : Kept W W2 S) (hne : ∀ k, ok k → ¬ S k) : d.R e W2 base ok v xs := Oc h (fun k ho hlt => hk.2 k hlt (hne k ho))
end
end Kd
end Go.Proofs.af.aU

namespace Go.Proofs.af.aU
open Go.RowKit
def adf (P : World → Prop) (W : World) (ok : Nat → Prop) : Prop := ∀ W' : World, (∀ k, ok k → k < W.heap.size → W'.heap[k]? = W.heap[k]?) → P W'
namespace Kd
def F {α : Type} (d : Kd α) (W : World) (ok : Nat → Prop) (A : Option Addr) (n : Nat) (xs : List α) : Prop := adf (fun W => d.C W A n xs) W ok
def FK {α : Type} (d : Kd α) (W : World) (ok : Nat → Prop) (x : α) (c : List Value) : Prop := adf (fun W => d.K W x c) W ok
section
variable {α β : Type} {d : Kd α} {e base n n' cc g N : Nat} {ok ok' Ik S : Nat → Prop} {w w0 w1 W W1 : World} {A A' : Option Addr} {u v v1 : Value} {xs : List α} {xs' : List β} {d' : Kd β} {x : α} {c : List Value}
theorem adg (d : Kd α) (W : World) (ok : Nat → Prop) : F d W ok none ([] : List α).length [] := fun W' _ => adi d W'
theorem Xr (h : d.M W base ok x c) : FK d W ok x c := fun _ hW => d.lT (U6 h hW)
end
end Kd
end Go.Proofs.af.aU

namespace Go.Proofs.af.aU
open Go.RowKit
namespace Kd
def chunks (sz : Nat) (n : Nat) (inner : List Value) : List (List Value) := (List.range n).map fun j => (inner.drop (j * sz)).take sz
theorem mQ (sz n : Nat) (inner : List Value) : (chunks sz n inner).length = n := by simp [chunks]
theorem RJ {sz n : Nat} {inner : List Value} {j : Nat} (hj : j < n) : (chunks sz n inner)[j]? = some ((inner.drop (j * sz)).take sz) := by simp [chunks, hj]
theorem Eu {sz n : Nat} {inner : List Value} {j : Nat} {c : List Value} (h : (chunks sz n inner)[j]? = some c) : c = (inner.drop (j * sz)).take sz := by
 have hj : j < n := by have := (List.getElem?_eq_some_iff.1 h).1; rwa [mQ] at this
 rw [RJ hj] at h
 injection h with h
 exact h.symm
theorem SX {α : Type} {Rr : α → List Value → Prop} {sz : Nat} {xs : List α} {inner : List Value} (h : fP Rr sz xs inner) (hR : ∀ x c, Rr x c → c.length = sz ∧ ∀ u ∈ c, u.oneCell' = true) : fP (fun x cs => cs = x ∧ cs.length = sz ∧ ∀ u ∈ cs, u.oneCell' = true) sz (chunks sz xs.length inner) inner := by
 refine ⟨by rw [mQ]; exact h.1, fun j p hj => ?_⟩
 have hjl : j < xs.length := by have := (List.getElem?_eq_some_iff.1 hj).1; rwa [mQ] at this
 have hp := Eu hj; exact ⟨hp.symm, hR _ _ (h.2 j _ (List.getElem?_eq_getElem hjl))⟩
section
variable {α : Type} {d : Kd α} {e base n cc g : Nat} {ok ok' Ik S : Nat → Prop} {w w1 W W1 : World} {A : Option Addr} {u v v1 : Value} {xs : List α} {x : α} {c : List Value}
def N {α : Type} (d : Kd α) (e : Nat) (w : World) (base : Nat) (ok : Nat → Prop) (v : Value) (xs : List α) : Prop :=
 (∀ k, v.ownBlock = some k → ok k) ∧ ∃ rows : List (List Value), rows.length = xs.length ∧ (raw d.sz).R e w base (fun k => some k = v.ownBlock) v rows ∧ ∀ (j : Nat) (x : α) (c : List Value), xs[j]? = some x → rows[j]? = some c → FK d w (fun k => ok k ∧ some k ≠ v.ownBlock) x c
theorem R_N (h : d.R e w base ok v xs) : N d e w base ok v xs := by
 obtain ⟨h0, inner, ho, hr⟩ := h; refine ⟨h0, chunks d.sz xs.length inner, mQ _ _ _, ⟨fun k hk => hk.symm, inner, by rw [mQ]; exact ho, SX hr (fun x c hp => ⟨d.wK (d.lT hp), d.u_ (d.lT hp)⟩)⟩, fun j x c hx hc => ?_⟩
 rw [Eu hc]; exact Xr (hr.2 j x hx)
theorem zL (d : Kd α) (e : Nat) (w : World) (base : Nat) (ok : Nat → Prop) : N d e w base ok (.slice none 0 0) [] := R_N (t_ _ _ _ _ _)
end
end Kd
end Go.Proofs.af.aU

namespace Go.Proofs.af.aU
open Go.RowKit
section
variable {P : Program} {d : Nat} {xs ys : Array Value} {f : Field} {fs : List Field} {a b : Value} {r s : Bool} {w : World}
theorem Ul (hn : (f.name == "_") = false) (ha : (part f.type xs f.offset).run P w = .ok a w) (hb : (part f.type ys f.offset).run P w = .ok b w) (he : (Op.equalIn d f.type a b).run P w = .ok r w) : (Op.eqFields d xs ys [f]).run P w = .ok r w := by
 have hn' : f.name ≠ "_" := by simpa using hn
 simp only [Op.eqFields, if_pos hn', Sem.run_bind, ha, hb, he, Result.andThen_ok]
 cases r <;> simp
theorem Um (hn : (f.name == "_") = false) (ha : (part f.type xs f.offset).run P w = .ok a w) (hb : (part f.type ys f.offset).run P w = .ok b w) (he : (Op.equalIn d f.type a b).run P w = .ok r w) (hr : (Op.eqFields d xs ys fs).run P w = .ok s w) : (Op.eqFields d xs ys (f :: fs)).run P w = .ok (r && s) w := by
 have hn' : f.name ≠ "_" := by simpa using hn
 rw [Op.eqFields]; simp only [if_pos hn', Sem.run_bind, ha, hb, he, Result.andThen_ok]
 cases r
 · simp
 · simpa using hr
theorem Zj {t : TypeId} {fs : Array Field} (hu : P.underlying t = some (.struct fs)) (hp : P.stoodInHeld t = false) (h : (Op.eqFields d xs ys fs.toList).run P w = .ok r w) : (Op.equalIn (d + 1) t (.agg xs) (.agg ys)).run P w = .ok r w := by
 have hf : P.fieldsOf t = fs := by simp [Program.fieldsOf, hu]
 rw [run_equalIn_struct (P := P) w d t xs ys (by rw [hf]; exact hu) hp, hf]; exact h
end
end Go.Proofs.af.aU

namespace Go.Proofs.af.aU
theorem fP.one {α : Type} {R : α → List Value → Prop} {ps : List α} {cs : List Value} {p : α} {v : Value} (hp : R p [v]) (h : fP R 1 ps cs) : fP R 1 (p :: ps) (v :: cs) := by
 refine ⟨by simp [h.1], fun j q hq => ?_⟩
 cases j with
 | zero =>
   simp only [List.getElem?_cons_zero, Option.some.injEq] at hq; subst hq
   simpa using hp
 | succ j =>
   simp only [List.getElem?_cons_succ] at hq; have h1 := h.2 j q hq
   simpa [Nat.mul_one] using h1
theorem fP.front {α : Type} {R : α → List Value → Prop} {size : Nat} {ps : List α} {cs c all : List Value} {p : α} (hp : R p c) (hc : c.length = size) (h : fP R size ps cs) (ha : c ++ cs = all) : fP R size (p :: ps) all := by
 subst ha; refine ⟨by rw [List.length_append, hc, h.1, List.length_cons, Nat.succ_mul, Nat.add_comm], fun j q hq => ?_⟩
 cases j with
 | zero =>
   simp only [List.getElem?_cons_zero, Option.some.injEq] at hq; subst hq; rw [Nat.zero_mul, List.drop_zero, List.take_append_of_le_length (by omega), List.take_of_length_le (by omega)]; exact hp
 | succ j =>
   simp only [List.getElem?_cons_succ] at hq; have h1 := h.2 j q hq; rw [Nat.succ_mul, List.drop_append, List.drop_of_length_le (by rw [hc]; exact Nat.le_add_left _ _), List.nil_append, hc, Nat.add_sub_cancel]; exact h1
theorem fP.c2 {α : Type} {R : α → List Value → Prop} {ps : List α} {cs : List Value} {p : α} {va vb : Value} (hp : R p [va, vb]) (h : fP R 2 ps cs) : fP R 2 (p :: ps) (va :: vb :: cs) := fP.front hp rfl h rfl
theorem fP.c3 {α : Type} {R : α → List Value → Prop} {ps : List α} {cs : List Value} {p : α} {va vb vc : Value} (hp : R p [va, vb, vc]) (h : fP R 3 ps cs) : fP R 3 (p :: ps) (va :: vb :: vc :: cs) := fP.front hp rfl h rfl
theorem fP.c4 {α : Type} {R : α → List Value → Prop} {ps : List α} {cs : List Value} {p : α} {va vb vc vd : Value} (hp : R p [va, vb, vc, vd]) (h : fP R 4 ps cs) : fP R 4 (p :: ps) (va :: vb :: vc :: vd :: cs) := fP.front hp rfl h rfl
theorem fP.c5 {α : Type} {R : α → List Value → Prop} {ps : List α} {cs : List Value} {p : α} {va vb vc vd ve : Value} (hp : R p [va, vb, vc, vd, ve]) (h : fP R 5 ps cs) : fP R 5 (p :: ps) (va :: vb :: vc :: vd :: ve :: cs) := fP.front hp rfl h rfl
theorem fP.c6 {α : Type} {R : α → List Value → Prop} {ps : List α} {cs : List Value} {p : α} {va vb vc vd ve vf : Value} (hp : R p [va, vb, vc, vd, ve, vf]) (h : fP R 6 ps cs) : fP R 6 (p :: ps) (va :: vb :: vc :: vd :: ve :: vf :: cs) := fP.front hp rfl h rfl
theorem fP.c7 {α : Type} {R : α → List Value → Prop} {ps : List α} {cs : List Value} {p : α} {va vb vc vd ve vf vg : Value} (hp : R p [va, vb, vc, vd, ve, vf, vg]) (h : fP R 7 ps cs) : fP R 7 (p :: ps) (va :: vb :: vc :: vd :: ve :: vf :: vg :: cs) := fP.front hp rfl h rfl
theorem fP.c8 {α : Type} {R : α → List Value → Prop} {ps : List α} {cs : List Value} {p : α} {va vb vc vd ve vf vg vh : Value} (hp : R p [va, vb, vc, vd, ve, vf, vg, vh]) (h : fP R 8 ps cs) : fP R 8 (p :: ps) (va :: vb :: vc :: vd :: ve :: vf :: vg :: vh :: cs) := fP.front hp rfl h rfl
theorem fP.c9 {α : Type} {R : α → List Value → Prop} {ps : List α} {cs : List Value} {p : α} {va vb vc vd ve vf vg vh vi : Value} (hp : R p [va, vb, vc, vd, ve, vf, vg, vh, vi]) (h : fP R 9 ps cs) : fP R 9 (p :: ps) (va :: vb :: vc :: vd :: ve :: vf :: vg :: vh :: vi :: cs) := fP.front hp rfl h rfl
theorem fP.c10 {α : Type} {R : α → List Value → Prop} {ps : List α} {cs : List Value} {p : α} {va vb vc vd ve vf vg vh vi vj : Value} (hp : R p [va, vb, vc, vd, ve, vf, vg, vh, vi, vj]) (h : fP R 10 ps cs) : fP R 10 (p :: ps) (va :: vb :: vc :: vd :: ve :: vf :: vg :: vh :: vi :: vj :: cs) := fP.front hp rfl h rfl
end Go.Proofs.af.aU

namespace Go.Proofs.af.aU
open Go.RowKit
section
variable {P : Program} {ops : Array Oper} {rest : List Oper} {o : Oper} {a : Act} {Q : Exit → Act → World → Prop} {W : World}
theorem kK (hw : Region.wanted o (yielded ops a.tmps) = true) (h : wpList P ops Q ({ o with guard := none } :: rest) a W) : wpList P ops Q (o :: rest) a W := by
 have h1 : Region.wanted { o with guard := none } (yielded ops a.tmps) = true := rfl
 unfold wpList at h ⊢
 rw [if_pos h1] at h; rw [if_pos hw]; exact h
end
end Go.Proofs.af.aU

namespace Go.Proofs.af.bf
open Go.RowKit Go.Proofs.af.aU
theorem jq (k k' : IntKind) (x y : Int) : Builtin.max2 (.int k x) (.int k' y) = pure (.int k (if x < y then y else x)) := by simp only [Builtin.max2, gt_iff_lt]
theorem jm (k k' : IntKind) (x y : Int) : Builtin.min2 (.int k x) (.int k' y) = pure (.int k (if y < x then y else x)) := by simp only [Builtin.min2]
theorem kJ (ats : Array TypeId) (ty : TypeId) (a b : Value) : Builtin.max_ ats ty #[a, b] = (Builtin.max2 a b >>= fun s => pure s) := by simp only [Builtin.max_, List.foldlM_cons, List.foldlM_nil]
theorem kH (ats : Array TypeId) (ty : TypeId) (a b : Value) : Builtin.min_ ats ty #[a, b] = (Builtin.min2 a b >>= fun s => pure s) := by simp only [Builtin.min_, List.foldlM_cons, List.foldlM_nil]
theorem iM (ats : Array TypeId) (ty : TypeId) (a b c : Value) : Builtin.max_ ats ty #[a, b, c] = (Builtin.max2 a b >>= fun s => Builtin.max2 s c >>= fun s => pure s) := by simp only [Builtin.max_, List.foldlM_cons, List.foldlM_nil]
theorem iL (ats : Array TypeId) (ty : TypeId) (a b c : Value) : Builtin.min_ ats ty #[a, b, c] = (Builtin.min2 a b >>= fun s => Builtin.min2 s c >>= fun s => pure s) := by simp only [Builtin.min_, List.foldlM_cons, List.foldlM_nil]
theorem jo (ats : Array TypeId) (ty : TypeId) (a b c d : Value) : Builtin.max_ ats ty #[a, b, c, d] = (Builtin.max2 a b >>= fun s => Builtin.max2 s c >>= fun s => Builtin.max2 s d >>= fun s => pure s) := by simp only [Builtin.max_, List.foldlM_cons, List.foldlM_nil]
theorem jl (ats : Array TypeId) (ty : TypeId) (a b c d : Value) : Builtin.min_ ats ty #[a, b, c, d] = (Builtin.min2 a b >>= fun s => Builtin.min2 s c >>= fun s => Builtin.min2 s d >>= fun s => pure s) := by simp only [Builtin.min_, List.foldlM_cons, List.foldlM_nil]
end Go.Proofs.af.bf
namespace Go.Proofs.af.aU
open Go.RowKit
section
variable {P : Program} {ops : Array Oper} {rest : List Oper} {o : Oper} {a : Act} {Q : Exit → Act → World → Prop} {W : World}
theorem aJ {f : FuncId} {as : Array Operand} {ts : Array TypeId} (_ho : o.op = .call { callee := .value (.func f), args := as, argTypes := ts }) (h : wpList P ops Q (o :: rest) a W) : wpList P ops Q (o :: rest) a W := h
theorem Jh {b : Builtin} {xs : Array Operand} {ts : Array TypeId} (_ho : o.op = .call { callee := .builtin b, args := xs, argTypes := ts }) (h : wpList P ops Q (o :: rest) a W) : wpList P ops Q (o :: rest) a W := h
end
def mx (a b : Int) : Int := if a < b then b else a
def mn (a b : Int) : Int := if b < a then b else a
def shl (k : IntKind) (x y : Int) : Int := k.wrap (x * 2 ^ min y.toNat k.bits)
def shr (k : IntKind) (x y : Int) : Int := x / 2 ^ min y.toNat k.bits
theorem zX {k : IntKind} {x y j : Int} (h : shl k x y = j) (hy : y ≤ k.bits) : k.wrap (x * 2 ^ y.toNat) = j := by rw [← h]; unfold shl; rw [Nat.min_eq_left (by omega)]
theorem zW {k : IntKind} {x y j : Int} (h : shr k x y = j) (hy : y ≤ k.bits) : x / 2 ^ y.toNat = j := by rw [← h]; unfold shr; rw [Nat.min_eq_left (by omega)]
theorem uK (w : World) (n : Nat) : w.drewN n = w.drewN n := rfl
namespace Kd
section
variable {α : Type} {d : Kd α} {e base b b' g N : Nat} {ok ok1 : Nat → Prop} {W W2 w1 : World} {u v : Value} {xs ys : List α} {S : Nat → Prop}
theorem QG {n size : Nat} {cs : List Value} (h : W.ownsRow b e size v n cs) (hb : ∀ k, v.ownBlock = some k → b' ≤ k) : W.ownsRow b' e size v n cs := by
 obtain ⟨h1, h2⟩ := h; refine ⟨h1, ?_⟩
 rcases h2 with h2 | ⟨g, cap, cur, rfl, _, r⟩
 · exact .inl h2
 · exact .inr ⟨g, cap, cur, rfl, hb g (by simp [Value.ownBlock]), r⟩
theorem P_ (hM : ∀ w ok x cs, d.M w b ok x cs → d.M w b' ok x cs) (h : d.R e W b ok v xs) (hb : ∀ k, v.ownBlock = some k → b' ≤ k) : d.R e W b' ok v xs := by
 obtain ⟨h0, inner, ho, hr⟩ := h; exact ⟨h0, inner, QG ho hb, hr.qP (fun _ _ hp => hM _ _ _ _ hp)⟩
theorem Qa (h : d.R e W base ok v xs) (hk : Kept W W2 S) (hne : ∀ k, ok k → ¬ S k) : d.R e W2 base (fun k => ok k ∧ (¬ S k ∧ k < W.heap.size)) v xs :=
 ZF (jc (uQ h) (fun k hk => ⟨hk.1, hne k hk.1, hk.2.2.1⟩)) hk (fun _ hk => hk.2.1)
end
end Kd
end Go.Proofs.af.aU
namespace Go.Proofs.af.aU
open Go.RowKit
theorem Kept.XJ {w W W2 : World} {S2 : Nat → Prop} {g : Nat} (h : bP w W g none) (k : Kept W W2 S2) (hs : ∀ k, S2 k → k = g ∨ w.heap.size ≤ k) : bP w W2 g none :=
 ⟨Nat.le_trans h.1 k.1, fun i hi hg hr => (k.2 i (Nat.lt_of_lt_of_le hi h.1) (fun h2 => (hs i h2).elim hg (fun h3 => by omega))).trans (h.2 i hi hg hr)⟩
namespace Kd
def V {α : Type} (d : Kd α) (_e : Nat) (W : World) (ajF : Nat) (ok : Nat → Prop) (v : Value) (xs : List α) : Prop := ∃ A c, v = .slice A xs.length c ∧ xs.length ≤ c ∧ F d W ok A xs.length xs
section
variable {α β : Type} {d : Kd α} {e base base' n m c g N' lo hi : Nat} {ok ok' S : Nat → Prop} {w W w1 : World} {A : Option Addr} {ad : Addr} {u v v1 : Value} {xs : List α}
theorem zF (d : Kd α) (e : Nat) (W : World) (base : Nat) (ok : Nat → Prop) : V d e W base ok (.slice none 0 0) [] := ⟨none, 0, rfl, Nat.le_refl _, adg d W ok⟩
end
end Kd
end Go.Proofs.af.aU

