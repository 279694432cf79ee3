import Derived.Test.YtcfobekkchhbbaaGreatV7
import Derived.Deep.DeepCutAuto
import Derived.Deep.CutBlock
import Derived.Test.YtcfobekkchhbbaaGreatV9
import Derived.Test.YtcfobekkchhbbaaGreatV10
import Derived.Deep.RegionLaw
/- Joined and thinned by a program of this session's own (wip/pack2.py) out of its texts (wip/ of its repo); parts were laid by its own program (wip/print-patch.py over the kit's print) out of the translation; Lean checks all. -/
set_option maxRecDepth 100000
set_option maxHeartbeats 8000000
namespace Go.Proofs.YtcfobekkchhbbaaGreat.EE
open Go.RowKit Go.Proofs.YtcfobekkchhbbaaGreat.KK
set_option linter.unusedVariables false
set_option linter.unusedSimpArgs false
structure Cf where
 dt : Int
 acc : Int
 bias : Int
 kL : Int
 pF : Int
 gate : Int
structure Tr where
 A : Option Addr
 c : Nat
 x : List Int
 B : Option Addr
 d : Nat
 p : List Int
structure Es where
 q0 : Int
 q1 : Int
 q2 : Int
 q3 : Int
 t0 : Tr
 t1 : Tr
 t2 : Tr
 steps : Int
 fZ : Int
 f0 : Int
 f1 : Int
 f2 : Int
 f3 : Int
 sat : Bool
structure Sm where
 missing : Bool
 g0 : Int
 g1 : Int
 g2 : Int
 a0 : Int
 a1 : Int
 a2 : Int
 hasB : Bool
 kL : Int
 FI : Bool
 n0 : Int
 n1 : Int
 n2 : Int
abbrev Cf.row (c : Cf) : Array Value := #[I c.dt, I c.acc, I c.bias, I c.kL, I c.pF, I c.gate]
abbrev Tr.row (t : Tr) : Array Value := #[I 3, I 1, .slice t.A t.x.length t.c, I 3, I 3, .slice t.B t.p.length t.d]
abbrev Es.row (e : Es) : Array Value :=
 #[I e.q0, I e.q1, I e.q2, I e.q3,
   I 3, I 1, .slice e.t0.A e.t0.x.length e.t0.c, I 3, I 3, .slice e.t0.B e.t0.p.length e.t0.d,
   I 3, I 1, .slice e.t1.A e.t1.x.length e.t1.c, I 3, I 3, .slice e.t1.B e.t1.p.length e.t1.d,
   I 3, I 1, .slice e.t2.A e.t2.x.length e.t2.c, I 3, I 3, .slice e.t2.B e.t2.p.length e.t2.d,
   I e.steps, I e.fZ, I e.f0, I e.f1, I e.f2, I e.f3, .bool e.sat]
abbrev Sm.row (s : Sm) : Array Value :=
 #[.bool s.missing, I s.g0, I s.g1, I s.g2, I s.a0, I s.a1, I s.a2, .bool s.hasB, I s.kL, .bool s.FI, I s.n0, I s.n1, I s.n2]
abbrev wk (c : Cf) (e : Es) (s : Sm) (a0 a1 a2 : Int) : Array Value :=
 #[I c.dt, I c.acc, I c.bias, I c.kL, I c.pF, I c.gate,
   I e.q0, I e.q1, I e.q2, I e.q3,
   I 3, I 1, .slice e.t0.A e.t0.x.length e.t0.c, I 3, I 3, .slice e.t0.B e.t0.p.length e.t0.d,
   I 3, I 1, .slice e.t1.A e.t1.x.length e.t1.c, I 3, I 3, .slice e.t1.B e.t1.p.length e.t1.d,
   I 3, I 1, .slice e.t2.A e.t2.x.length e.t2.c, I 3, I 3, .slice e.t2.B e.t2.p.length e.t2.d,
   I e.steps, I e.fZ, I e.f0, I e.f1, I e.f2, I e.f3, .bool e.sat,
   .bool s.missing, I s.g0, I s.g1, I s.g2, I s.a0, I s.a1, I s.a2, .bool s.hasB, I s.kL, .bool s.FI, I s.n0, I s.n1, I s.n2,
   I a0, I a1, I a2]
structure jP (w0 : World) (g : Nat) (c : Cf) (e : Es) (s : Sm) (a0 a1 a2 : Int) (w : World) : Prop where
 row : Row w g 111 (wk c e s a0 a1 a2)
 gr : w0.grownBy w (some g)
theorem yB (n m : Int) (w : World) (h0 : 0 ≤ n) (h1 : n ≤ 9223372036854775806) : Calls Tryz.prog 96 #[I n, I m] w fun e w' => e = .returned (I (min (n + 1) m)) ∧ w' = w := by
 have hw : IntKind.i64.wrap (n + 1) = n + 1 := IntWalk.i64_in _ (by omega)
 go_enter Tryz.func96, Tryz.ntmps96
 go_wp2
 go_ret
 exact ⟨by simp [Int.min_def], rfl⟩
theorem Row.put {w : World} {g : Nat} {t : TypeId} {cs : Array Value} (R : Row w g t cs) (i : Nat) (v : Value) (cs' : Array Value) (h : cs.setIfInBounds i v = cs') : Row (w.setCell ⟨g, i, none⟩ v) g t cs' := h ▸ R.set i v
theorem dJ {w0 w : World} {g : Nat} (h : w0.grownBy w (some g)) (i : Nat) (v : Value) : w0.grownBy (w.setCell ⟨g, i, none⟩ v) (some g) :=
 ⟨h.os, h.tape, h.output, by simpa using h.size, fun k hk hr => (Below.heap_setCell w ⟨g, i, none⟩ v k (fun e => hr (by rw [e]))).trans (h.block k hk hr)⟩
theorem gG (w : World) (r : Option Nat) : w.grownBy w r := gu (Below.refl _ _) r
theorem grown_below {w0 w w1 : World} {r : Option Nat} (h : w0.grownBy w r) (hb : Below w.heap.size w w1) : w0.grownBy w1 r := dU h (gu hb r)
theorem m_ (g : Nat) (c : Cf) (e : Es) (s : Sm) (a0 a1 a2 : Int) (b : Bool) (w : World) (R : Row w g 111 (wk c e s a0 a1 a2)) :
 Calls Tryz.prog 89 #[.pointer (some ⟨g, 0, none⟩), .bool b] w fun x w' => x = .returned (.tuple #[]) ∧ jP w g c { e with sat := e.sat || b } s a0 a1 a2 w' := by
 have hc := R.cell; have hf := R.free
 cases hs : e.sat
 · go_enter Tryz.func89, Tryz.ntmps89
   go_wp2
   go_end0
   exact ⟨rfl, Row.put R 34 _ _ (by simp), dJ (gG _ _) _ _⟩
 · go_enter Tryz.func89, Tryz.ntmps89
   go_wp2
   go_end0
   exact ⟨rfl, Row.put R 34 _ _ (by simp), dJ (gG _ _) _ _⟩
theorem nH (g : Nat) (c : Cf) (e : Es) (s : Sm) (a0 a1 a2 q : Int) (b : Bool) (w : World) (R : Row w g 111 (wk c e s a0 a1 a2)) :
 Calls Tryz.prog 90 #[.pointer (some ⟨g, 0, none⟩), I q, .bool b] w fun x w' => x = .returned (I q) ∧ jP w g c { e with sat := e.sat || b } s a0 a1 a2 w' := by
 go_enter Tryz.func90, Tryz.ntmps90
 go_wp2_with fail
 refine (m_ g c e s a0 a1 a2 b w R).mono ?_
 rintro x w1 ⟨rfl, hw⟩; have HW := Lib.hid hw; clear hw; go_wp2
 go_ret
 exact ⟨rfl, HW.out⟩
theorem jP.step {w0 w w1 : World} {g : Nat} {c : Cf} {e e' : Es} {s : Sm} {a0 a1 a2 b0 b1 b2 : Int} (h : jP w0 g c e s a0 a1 a2 w) (k : jP w g c e' s b0 b1 b2 w1) : jP w0 g c e' s b0 b1 b2 w1 := ⟨k.row, dU h.gr k.gr⟩
theorem jP.below {w0 w w1 : World} {g : Nat} {c : Cf} {e : Es} {s : Sm} {a0 a1 a2 : Int} (h : jP w0 g c e s a0 a1 a2 w) (hb : Below w.heap.size w w1) : jP w0 g c e s a0 a1 a2 w1 := ⟨h.row.below hb h.row.lt, grown_below h.gr hb⟩
theorem jP.drew {w0 w : World} {g : Nat} {c : Cf} {e : Es} {s : Sm} {a0 a1 a2 : Int} (h : jP w0 g c e s a0 a1 a2 w) : jP w0 g c e s a0 a1 a2 w.drew := h.below (Below.refl _ _).drew
def cnt (e : Es) (s : Sm) : Es := { e with steps := min (e.steps + 1) 1099511627776, fZ := if s.missing = true then min (e.fZ + 1) 1000 else 0 }
theorem KI (g : Nat) (c : Cf) (e : Es) (s : Sm) (a0 a1 a2 : Int) (w : World) (R : Row w g 111 (wk c e s a0 a1 a2)) (h0 : 0 ≤ e.steps) (h1 : e.steps ≤ 1099511627776) (h2 : 0 ≤ e.fZ) (h3 : e.fZ ≤ 1000) :
 Calls Tryz.prog 50 #[.pointer (some ⟨g, 0, none⟩)] w fun x w' => x = .returned (.tuple #[]) ∧ jP w g c (cnt e s) s a0 a1 a2 w' := by
 have HH := Lib.hid (And.intro (And.intro h0 h1) (And.intro h2 h3)); clear h0 h1 h2 h3; have hc := R.cell; have hf := R.free
 go_enter Tryz.func50, Tryz.ntmps50
 go_wp2_with fail
 refine (yB _ _ _ HH.out.1.1 (by have := HH.out.1.2; omega)).mono ?_
 rintro x w1 ⟨rfl, rfl⟩
 cases hm : s.missing
 · go_wp2
   go_end0
   exact ⟨rfl, Row.put (Row.put R 28 _ _ rfl) 29 _ _ (by simp [cnt, hm]), dJ (dJ (gG _ _) _ _) _ _⟩
 · go_wp2_with fail
   refine (yB _ _ _ HH.out.2.1 (by have := HH.out.2.2; omega)).mono ?_
   rintro x w2 ⟨rfl, rfl⟩; go_wp2
   go_end0
   exact ⟨rfl, Row.put (Row.put R 28 _ _ rfl) 29 _ _ (by simp [cnt, hm]), dJ (dJ (gG _ _) _ _) _ _⟩
end Go.Proofs.YtcfobekkchhbbaaGreat.EE

namespace Go.Proofs.YtcfobekkchhbbaaGreat.EE
open Go.RowKit Go.Proofs.YtcfobekkchhbbaaGreat.KK
set_option linter.unusedVariables false
set_option linter.unusedSimpArgs false
structure Sw (w0 : World) (L : List (TypeId × Array Value)) (g : Nat) (C : Array Value) (w : World) : Prop where
 rows : KK.Rows w w0.heap.size L
 row : Row w g 111 C
 gr : w0.grownBy w (some g)
 lt : g < w0.heap.size
section
variable {w w' w0 : World} {g : Nat} {L : List (TypeId × Array Value)} {C : Array Value}
theorem Sw.of (R : Row w g 111 C) : Sw w [] g C w := ⟨trivial, R, gG _ _, R.lt⟩
theorem Sw.push (h : Sw w0 L g C w) (e : w.heap.size = w0.heap.size + L.length) (t : TypeId) (cs : Array Value) : Sw w0 (L ++ [(t, cs)]) g C (w.alloc (.cells cs t)) :=
 ⟨h.rows.push e t cs, h.row.alloc _, grown_below h.gr ((Below.refl _ _).alloc (Nat.le_refl _) _), h.lt⟩
theorem Sw.below (h : Sw w0 L g C w) (hb : Below w.heap.size w w') : Sw w0 L g C w' := ⟨h.rows.below hb, h.row.below hb h.row.lt, grown_below h.gr hb, h.lt⟩
theorem Sw.alloc (h : Sw w0 L g C w) (o : Obj) : Sw w0 L g C (w.alloc o) := h.below ((Below.refl _ _).alloc (Nat.le_refl _) o)
theorem Sw.drew (h : Sw w0 L g C w) : Sw w0 L g C w.drew := h.below (Below.refl _ _).drew
theorem Sw.work (h : Sw w0 L g C w) {c : Cf} {e : Es} {s : Sm} {a0 a1 a2 : Int} (k : jP w g c e s a0 a1 a2 w') : Sw w0 L g (wk c e s a0 a1 a2) w' :=
 ⟨h.rows.imp fun j t cs hk _ r => r.grown k.gr (fun e => by injection e with e; have := h.lt; omega), k.row, dU h.gr k.gr, h.lt⟩
theorem Sw.put (h : Sw w0 L g C w) (j : Nat) (t : TypeId) (cs : Array Value) (hr : Row w (w0.heap.size + j) t cs) (i : Nat) (u : Value) : Sw w0 (L.set j (t, cs.setIfInBounds i u)) g C (w.setCell ⟨w0.heap.size + j, i, none⟩ u) :=
 ⟨h.rows.OH j t _ (hr.set i u) fun k t cs hk r => r.far (by simpa using hk) u, h.row.far (by have := h.lt; simp; omega) u,
   ⟨h.gr.os, h.gr.tape, h.gr.output, by simpa using h.gr.size, fun k hk hr => (Below.heap_setCell w _ _ k (by simp; omega)).trans (h.gr.block k hk hr)⟩, h.lt⟩
variable {x0 x1 x2 x3 x4 x5 x6 : TypeId × Array Value}
theorem Sw.r0 (h : Sw w0 (x0 :: L) g C w) : Row w w0.heap.size x0.1 x0.2 := h.rows.1
theorem Sw.r1 (h : Sw w0 (x0 :: x1 :: L) g C w) : Row w (w0.heap.size + 1) x1.1 x1.2 := h.rows.2.1
theorem Sw.set (h : Sw w0 L g C w) {p : Addr} (hp : w0.heap.size + L.length ≤ p.block) (u : Value) : Sw w0 L g C (w.setCell p u) :=
 ⟨h.rows.imp fun k t cs _ hk r => r.far (by omega) u, h.row.far (by have := h.lt; omega) u,
   ⟨h.gr.os, h.gr.tape, h.gr.output, by simpa using h.gr.size, fun k hk hr => (Below.heap_setCell w _ _ k (by omega)).trans (h.gr.block k hk hr)⟩, h.lt⟩
abbrev wo (w : World) (C : Nat) (a b c d : Value) : World := (dK w C a b c).setCell ⟨C, 3, none⟩ d
abbrev g_ (w : World) (C : Nat) (a b c d e f : Value) : World := ((wo w C a b c d).setCell ⟨C, 4, none⟩ e).setCell ⟨C, 5, none⟩ f
theorem Sw.dK (h : Sw w0 L g C w) {t : Nat} (hp : w0.heap.size + L.length ≤ t) (a b c : Value) : Sw w0 L g C (KK.dK w t a b c) := ((h.set (p := ⟨t, 0, none⟩) hp _).set (p := ⟨t, 1, none⟩) hp _).set (p := ⟨t, 2, none⟩) hp _
theorem Sw.wo (h : Sw w0 L g C w) {t : Nat} (hp : w0.heap.size + L.length ≤ t) (a b c d : Value) : Sw w0 L g C (EE.wo w t a b c d) := (h.dK hp a b c).set (p := ⟨t, 3, none⟩) hp _
theorem Sw.g_ (h : Sw w0 L g C w) {t : Nat} (hp : w0.heap.size + L.length ≤ t) (a b c d e f : Value) : Sw w0 L g C (EE.g_ w t a b c d e f) := ((h.wo hp a b c d).set (p := ⟨t, 4, none⟩) hp _).set (p := ⟨t, 5, none⟩) hp _
structure Tb (w0 : World) (n : Nat) (tb : Nat) (t : TypeId) (cs : Array Value) (w : World) : Prop where
 le : w0.heap.size + n ≤ tb
 row : Row w tb t cs
variable {tb n : Nat} {t : TypeId} {cs : Array Value}
theorem Sw.le (h : Sw w0 L g C w) : w0.heap.size + L.length ≤ w.heap.size := h.rows.le h.gr.size
theorem Tb.new (t : TypeId) (cs : Array Value) (h : Sw w0 L g C w) : Tb w0 L.length w.heap.size t cs (w.alloc (.cells cs t)) := ⟨h.le, Row.new _ _ _⟩
theorem Tb.mJ (t : TypeId) (cs : Array Value) (h : Sw w0 [] g C w) : Tb w0 0 w.heap.size t cs (w.alloc (.cells cs t)) := Tb.new t cs h
theorem Sw.AP (h : Sw w0 [] g C w) {t : Nat} (hp : w0.heap.size + 0 ≤ t) (a b c d : Value) : Sw w0 [] g C (EE.wo w t a b c d) := h.wo hp a b c d
theorem Sw.mM (h : Sw w0 [] g C w) {t : Nat} (hp : w0.heap.size + 0 ≤ t) (a b c : Value) : Sw w0 [] g C (KK.dK w t a b c) := h.dK hp a b c
theorem Sw.NJ (h : Sw w0 [] g C w) {t : Nat} (hp : w0.heap.size + 0 ≤ t) (a b c d e f : Value) : Sw w0 [] g C (EE.g_ w t a b c d e f) := h.g_ hp a b c d e f
theorem Tb.below (h : Tb w0 n tb t cs w) (hb : Below w.heap.size w w') : Tb w0 n tb t cs w' := ⟨h.le, h.row.below hb h.row.lt⟩
theorem Tb.alloc (h : Tb w0 n tb t cs w) (o : Obj) : Tb w0 n tb t cs (w.alloc o) := ⟨h.le, h.row.alloc o⟩
theorem Tb.drew (h : Tb w0 n tb t cs w) : Tb w0 n tb t cs w.drew := ⟨h.le, h.row.drew⟩
theorem Tb.work (h : Tb w0 n tb t cs w) (hl : g < w0.heap.size) (hg : w.grownBy w' (some g)) : Tb w0 n tb t cs w' := ⟨h.le, h.row.grown hg (fun e => by injection e with e; have := h.le; omega)⟩
theorem Tb.up {w1 : World} (h : Tb w1 0 tb t cs w) (hl : w0.heap.size ≤ w1.heap.size) : Tb w0 0 tb t cs w := ⟨Nat.le_trans hl h.le, h.row⟩
theorem Sw.up {w1 : World} {C' : Array Value} (h : Sw w0 [] g C' w1) (k : Sw w1 [] g C w) : Sw w0 [] g C w := ⟨trivial, k.row, dU h.gr k.gr, h.lt⟩
theorem DN {a b n : Nat} (h : a < n) (h' : n + 0 ≤ b) : a ≠ b := by omega
theorem Tb.rG (h : Tb w0 n tb t cs w) {k : Nat} (hk : tb ≠ k) (a b c : Value) : Tb w0 n tb t cs (KK.dK w k a b c) := ⟨h.le, h.row.rG hk⟩
theorem Tb.NL (h : Tb w0 n tb t cs w) {k : Nat} (hk : tb ≠ k) (a b c d : Value) : Tb w0 n tb t cs (EE.wo w k a b c d) := ⟨h.le, (h.row.rG hk).far (p := ⟨k, 3, none⟩) hk d⟩
theorem Tb.vH (h : Tb w0 n tb t cs w) {k : Nat} (hk : tb ≠ k) (a b c d e f : Value) : Tb w0 n tb t cs (EE.g_ w k a b c d e f) := ⟨h.le, (((h.NL hk a b c d).row.far (p := ⟨k, 4, none⟩) hk e).far (p := ⟨k, 5, none⟩) hk f)⟩
theorem Tb.dK {a' b' c' : Value} (h : Tb w0 n tb t #[a', b', c'] w) (a b c : Value) : Tb w0 n tb t #[a, b, c] (KK.dK w tb a b c) := ⟨h.le, h.row.dK a b c⟩
theorem Tb.wo {a' b' c' d' : Value} (h : Tb w0 n tb t #[a', b', c', d'] w) (a b c d : Value) : Tb w0 n tb t #[a, b, c, d] (EE.wo w tb a b c d) := ⟨h.le, by simpa using (((h.row.set 0 a).set 1 b).set 2 c).set 3 d⟩
theorem Tb.g_ {a' b' c' d' e' f' : Value} (h : Tb w0 n tb t #[a', b', c', d', e', f'] w) (a b c d e f : Value) : Tb w0 n tb t #[a, b, c, d, e, f] (EE.g_ w tb a b c d e f) := ⟨h.le, by simpa using (((((h.row.set 0 a).set 1 b).set 2 c).set 3 d).set 4 e).set 5 f⟩
end
theorem sG (a : Int) (w : World) : Calls Tryz.prog 137 #[I a] w fun e w' => e = .returned (.tuple #[I (PQ.cl a), .bool (PQ.od a)]) ∧ Below w.heap.size w w' := PQ.dW.calls a _ _ w (PQ.zx a)
def H6 (a b c x y z : Int) : Nat → Array Value
 | 0 => #[I a, I b, I c]
 | 1 => #[I x, I b, I c]
 | 2 => #[I x, I y, I c]
 | _ => #[I x, I y, I z]
def aaF (s a b c : Bool) : Nat → Bool
 | 0 => s
 | 1 => s || a
 | 2 => (s || a) || b
 | _ => ((s || a) || b) || c
theorem kV (g : Nat) (c : Cf) (e : Es) (s : Sm) (a0 a1 a2 x y z : Int) (w : World) (R : Row w g 111 (wk c e s a0 a1 a2)) :
 Calls Tryz.prog 85 #[.pointer (some ⟨g, 0, none⟩), .agg #[I x, I y, I z]] w fun r w' => r = .returned (.agg #[I (PQ.cl x), I (PQ.cl y), I (PQ.cl z)]) ∧
  jP w g c { e with sat := ((e.sat || PQ.od x) || PQ.od y) || PQ.od z } s a0 a1 a2 w' := by
 have hg := R.lt
 have N : Hid (Sw w [(53, H6 x y z (PQ.cl x) (PQ.cl y) (PQ.cl z) 0), (53, #[I 0, I 0, I 0])] g (wk c { e with sat := aaF e.sat (PQ.od x) (PQ.od y) (PQ.od z) 0 } s a0 a1 a2) ((w.alloc (.cells #[I x, I y, I z] 53)).alloc (.cells #[I 0, I 0, I 0] 53))) :=
  Lib.hid (((Sw.of R).push (by simp) _ _).push (by simp) _ _)
 clear R
 go_enter Tryz.func85, Tryz.ntmps85
 go_wp2_with fail
 go_loopw [8] (fun i wr => ∃ k : Nat, k ≤ 3 ∧ i = .int .i64 k ∧ Hid (Sw w [(53, H6 x y z (PQ.cl x) (PQ.cl y) (PQ.cl z) k), (53, #[I 0, I 0, I 0])] g (wk c { e with sat := aaF e.sat (PQ.od x) (PQ.od y) (PQ.od z) k } s a0 a1 a2) wr)) (fun i _ => 3 - (intOf i).toNat)
 case atStart => exact ⟨0, by omega, rfl, N⟩
 case round =>
  clear N; obtain ⟨k, hk, rfl, M⟩ := hrel
  have ix0 : ∀ w', (Instr.index 53 (.agg #[I x, I y, I z]) (.int .i64 0)).run Tryz.prog w' = .ok (I x) w' := fun w' => by kernel_rfl
  have ix1 : ∀ w', (Instr.index 53 (.agg #[I x, I y, I z]) (.int .i64 1)).run Tryz.prog w' = .ok (I y) w' := fun w' => by kernel_rfl
  have ix2 : ∀ w', (Instr.index 53 (.agg #[I x, I y, I z]) (.int .i64 2)).run Tryz.prog w' = .ok (I z) w' := fun w' => by kernel_rfl
  obtain rfl | rfl | rfl | rfl : k = 0 ∨ k = 1 ∨ k = 2 ∨ k = 3 := by omega
  rotate_left 3
  · have c0 := M.out.r0.cell
    have c1 := M.out.r1.cell; have f1 := M.out.r1.free; simp only [H6] at c0; go_wp2
    have HB : Hid (Sw w [(53, #[I (PQ.cl x), I (PQ.cl y), I (PQ.cl z)]), (53, #[I (PQ.cl x), I (PQ.cl y), I (PQ.cl z)])] g (wk c { e with sat := ((e.sat || PQ.od x) || PQ.od y) || PQ.od z } s a0 a1 a2) (dK wr (w.heap.size + 1) (I (PQ.cl x)) (I (PQ.cl y)) (I (PQ.cl z)))) :=
     Lib.hid (by
      have h0 := M.out.put 1 53 _ M.out.r1 0 (I (PQ.cl x)); have h1 := h0.put 1 53 _ h0.r1 1 (I (PQ.cl y)); exact h1.put 1 53 _ h1.r1 2 (I (PQ.cl z)))
    refine bodyPost_ret (results_cell_row rfl _ _ (w.heap.size + 1) 53 _ (0, 0) _ rfl HB.out.r1 Tryz.underlying53 rfl rfl) rfl ⟨rfl, HB.out.row, HB.out.gr⟩
  all_goals
   go_wp2_with fail
   refine (sG _ _).mono ?_
   rintro r w1 ⟨rfl, hb⟩; have M1 := Lib.hid (M.out.below hb); clear hb M
   go_wp2_with fail
   refine (nH g c _ s a0 a1 a2 _ _ _ M1.out.row).mono ?_
   rintro r w2 ⟨rfl, hw⟩; have M2 := Lib.hid (M1.out.work hw); clear hw M1; have c0 := M2.out.r0.cell; have f0 := M2.out.r0.free; simp only [H6] at c0; go_wp2
   go_roundw
  case rel => exact ⟨1, by omega, by go_num, Lib.hid (M2.out.put 0 53 _ M2.out.r0 0 (I (PQ.cl x)))⟩
  case rel => exact ⟨2, by omega, by go_num, Lib.hid (M2.out.put 0 53 _ M2.out.r0 1 (I (PQ.cl y)))⟩
  case rel => exact ⟨3, by omega, by go_num, Lib.hid (M2.out.put 0 53 _ M2.out.r0 2 (I (PQ.cl z)))⟩
  all_goals simp [intOf]
end Go.Proofs.YtcfobekkchhbbaaGreat.EE

namespace Go.Proofs.YtcfobekkchhbbaaGreat.EE
open Go.RowKit Go.Proofs.YtcfobekkchhbbaaGreat.KK
set_option linter.unusedVariables false
set_option linter.unusedSimpArgs false
abbrev P7 (x y z b k0 k1 k2 k3 : Int) (F : Bool) : Prop := ∀ w, Calls Tryz.prog 84 #[.agg #[I x, I y, I z], I b] w fun e w' => e = .returned (.tuple #[.agg #[I k0, I k1, I k2, I k3], .bool F]) ∧ Below w.heap.size w w'
abbrev Yb (a b c d e f g h k0 k1 k2 k3 : Int) (F : Bool) : Prop := ∀ w, Calls Tryz.prog 86 #[.agg #[I a, I b, I c, I d], .agg #[I e, I f, I g, I h]] w fun e w' => e = .returned (.tuple #[.agg #[I k0, I k1, I k2, I k3], .bool F]) ∧ Below w.heap.size w w'
abbrev UM (a b c d k0 k1 k2 k3 : Int) (F : Bool) : Prop := ∀ w, Calls Tryz.prog 87 #[.agg #[I a, I b, I c, I d]] w fun e w' => e = .returned (.tuple #[.agg #[I k0, I k1, I k2, I k3], .bool F]) ∧ Below w.heap.size w w'
abbrev UN (a b c d x y z k0 k1 k2 : Int) (F : Bool) : Prop := ∀ w, Calls Tryz.prog 88 #[.agg #[I a, I b, I c, I d], .agg #[I x, I y, I z]] w fun e w' => e = .returned (.tuple #[.agg #[I k0, I k1, I k2], .bool F]) ∧ Below w.heap.size w w'
abbrev turned (w : World) (g : Nat) (a b c d x y z : Value) : World := ((((((w.setCell ⟨g, 6, none⟩ a).setCell ⟨g, 7, none⟩ b).setCell ⟨g, 8, none⟩ c).setCell ⟨g, 9, none⟩ d).setCell ⟨g, 48, none⟩ x).setCell ⟨g, 49, none⟩ y).setCell ⟨g, 50, none⟩ z
theorem Qo {w : World} {g : Nat} {c : Cf} {e : Es} {s : Sm} {a0 a1 a2 : Int} (R : Row w g 111 (wk c e s a0 a1 a2)) (n0 n1 n2 n3 y0 y1 y2 : Int) :
 jP w g c { e with q0 := n0, q1 := n1, q2 := n2, q3 := n3 } s y0 y1 y2 (turned w g (I n0) (I n1) (I n2) (I n3) (I y0) (I y1) (I y2)) :=
 ⟨by simpa using ((((((R.set 6 (I n0)).set 7 (I n1)).set 8 (I n2)).set 9 (I n3)).set 48 (I y0)).set 49 (I y1)).set 50 (I y2),
   dJ (dJ (dJ (dJ (dJ (dJ (dJ (gG _ _) _ _) _ _) _ _) _ _) _ _) _ _) _ _⟩
theorem Row.NL {w : World} {g k : Nat} {t : TypeId} {cs : Array Value} (R : Row w k t cs) (h : k ≠ g) (a b c d : Value) : Row ((((w.setCell ⟨g, 6, none⟩ a).setCell ⟨g, 7, none⟩ b).setCell ⟨g, 8, none⟩ c).setCell ⟨g, 9, none⟩ d) k t cs :=
 (((R.far (p := ⟨g, 6, none⟩) h a).far (p := ⟨g, 7, none⟩) h b).far (p := ⟨g, 8, none⟩) h c).far (p := ⟨g, 9, none⟩) h d
theorem Row.XU {w : World} {g k : Nat} {t : TypeId} {cs : Array Value} (R : Row w k t cs) (h : k ≠ g) (a b c d x y z : Value) : Row (turned w g a b c d x y z) k t cs :=
 (((Row.NL R h a b c d).far (p := ⟨g, 48, none⟩) h x).far (p := ⟨g, 49, none⟩) h y).far (p := ⟨g, 50, none⟩) h z
theorem uq (g : Nat) (c : Cf) (e : Es) (s : Sm) (m0 m1 m2 m3 p0 p1 p2 p3 n0 n1 n2 n3 y0 y1 y2 : Int) (F1 F2 F3 F4 : Bool) (w : World) (R : Row w g 111 (wk c e s 0 0 0)) (hm : s.missing = false)
 (H1 : P7 (PQ.cl s.g0) (PQ.cl s.g1) (PQ.cl s.g2) c.dt m0 m1 m2 m3 F1) (H2 : Yb e.q0 e.q1 e.q2 e.q3 m0 m1 m2 m3 p0 p1 p2 p3 F2) (H3 : UM p0 p1 p2 p3 n0 n1 n2 n3 F3) (H4 : UN n0 n1 n2 n3 (PQ.cl s.a0) (PQ.cl s.a1) (PQ.cl s.a2) y0 y1 y2 F4) :
 Calls Tryz.prog 47 #[.pointer (some ⟨g, 0, none⟩)] w fun r w' => r = .returned (.tuple #[]) ∧
  jP w g c { e with q0 := n0, q1 := n1, q2 := n2, q3 := n3, sat := (((((((e.sat || PQ.od s.g0) || PQ.od s.g1) || PQ.od s.g2) || PQ.od s.a0) || PQ.od s.a1) || PQ.od s.a2) || (((F1 || F2) || F3) || F4)) } s y0 y1 y2 w' := by
 have hg := R.lt; have M : Hid (Sw w [] g (wk c e s 0 0 0) w) := Lib.hid (Sw.of R); have G1 := Lib.hid H1; have G2 := Lib.hid H2; have G3 := Lib.hid H3; have G4 := Lib.hid H4; have K1 : Hid (∀ w' e', Row w' g 111 (wk c e' s 0 0 0) → (w'.cell? ⟨g, 0, none⟩ = some (I c.dt) ∧ w'.cell? ⟨g, 36, none⟩ = some (I s.g0) ∧ w'.cell? ⟨g, 37, none⟩ = some (I s.g1) ∧ w'.cell? ⟨g, 38, none⟩ = some (I s.g2))) := Lib.hid (fun w' e' R => ⟨R.cell 0, R.cell 36, R.cell 37, R.cell 38⟩); have hc := R.cell; clear R H1 H2 H3 H4
 go_enter Tryz.func47, Tryz.ntmps47
 go_upto_region 1 with fail
 clear hm hc
 go_cut [2, 3] (fun v2 v3 wc => ∃ tb : Nat, v2 = .pointer (some ⟨tb, 0, none⟩) ∧ v3 = .bool F1 ∧ Hid (Tb w 0 tb 26 #[I m0, I m1, I m2, I m3] wc) ∧ Hid (Sw w [] g (wk c { e with sat := ((e.sat || PQ.od s.g0) || PQ.od s.g1) || PQ.od s.g2 } s 0 0 0) wc))
 case first =>
  go_region_held3 (fun w' => (w'.cell? ⟨g, 0, none⟩ = some (I c.dt) ∧ w'.cell? ⟨g, 36, none⟩ = some (I s.g0) ∧ w'.cell? ⟨g, 37, none⟩ = some (I s.g1) ∧ w'.cell? ⟨g, 38, none⟩ = some (I s.g2)))
   (first | with_reducible exact K1.out _ _ (M.out).row | with_reducible exact K1.out _ _ (M.out.drew).row | with_reducible exact K1.out _ _ (M.out.alloc _).row | with_reducible exact K1.out _ _ (M.out.drew.alloc _).row | with_reducible exact K1.out _ _ ((M.out.alloc _).drew).row | with_reducible exact K1.out _ _ (M.out.AP TB.out.le _ _ _ _).row | with_reducible exact K1.out _ _ ((M.out.alloc _).AP M.out.le' _ _ _ _).row)
   (first
     | (go_at_call 84
        first
         | ((with_reducible refine (G1.out _).mono ?_)
            rintro r wn ⟨rfl, hb⟩
            with_reducible have M' := Lib.hid (M.out.below hb)
            (try (have GK := Lib.hid (Tb.below (TB.out) hb); clear TB kc kf zt; have TB := GK; clear GK; have kc := TB.out.row.cell; have kf := TB.out.row.free; have zt := TB.out.row.lt))
            clear hb M; have M := M'
            clear M')
         | ((with_reducible refine (G1.out _).mono ?_)
            rintro r wn ⟨rfl, hb⟩
            with_reducible have M' := Lib.hid ((M.out.alloc _).below hb)
            have TB := Lib.hid (Tb.below (Tb.mJ 26 #[I 0, I 0, I 0, I 0] M.out) hb); have kc := TB.out.row.cell; have kf := TB.out.row.free; have zt := TB.out.row.lt; clear hb M; have M := M'
            clear M'))
     | (go_at_call 85
        first
         | ((with_reducible refine (kV g c _ s 0 0 0 s.g0 s.g1 s.g2 _ M.out.drew.row).mono ?_)
            rintro r wn ⟨rfl, hw⟩
            with_reducible have M' := Lib.hid (M.out.drew.work hw)
            clear hw M; have M := M'
            clear M')
         | ((with_reducible refine (kV g c _ s 0 0 0 s.g0 s.g1 s.g2 _ (M.out.drew.alloc _).row).mono ?_)
            rintro r wn ⟨rfl, hw⟩
            with_reducible have M' := Lib.hid ((M.out.drew.alloc _).work hw)
            have TB := Lib.hid (Tb.work (Tb.mJ 26 #[I 0, I 0, I 0, I 0] M.out.drew) M.out.lt hw.gr); have kc := TB.out.row.cell; have kf := TB.out.row.free; have zt := TB.out.row.lt; clear hw M; have M := M'
            clear M')
         | ((with_reducible refine (kV g c _ s 0 0 0 s.g0 s.g1 s.g2 _ (M.out.alloc _).drew.row).mono ?_)
            rintro r wn ⟨rfl, hw⟩
            with_reducible have M' := Lib.hid ((M.out.alloc _).drew.work hw)
            have TB := Lib.hid (Tb.work (Tb.drew (Tb.mJ 26 #[I 0, I 0, I 0, I 0] M.out)) M.out.lt hw.gr); have kc := TB.out.row.cell; have kf := TB.out.row.free; have zt := TB.out.row.lt; clear hw M; have M := M'
            clear M')))
  all_goals (go_wp2_with fail; go_meet)
  all_goals
   first
    | with_reducible exact ⟨_, rfl, rfl, Lib.hid (TB.out.wo _ _ _ _), Lib.hid (M.out.AP TB.out.le _ _ _ _)⟩
    | with_reducible exact ⟨_, rfl, rfl, Lib.hid (Tb.mJ 26 _ M.out), Lib.hid (M.out.alloc _)⟩
 case rest =>
  clear M K1; obtain ⟨ta, rfl, rfl, TA, M⟩ := hcut; have K2 : Hid (∀ w' e', Row w' g 111 (wk c { e with sat := e' } s 0 0 0) → Row w' ta 26 #[I m0, I m1, I m2, I m3] → (w'.cell? ⟨g, 6, none⟩ = some (I e.q0) ∧ w'.cell? ⟨g, 7, none⟩ = some (I e.q1) ∧ w'.cell? ⟨g, 8, none⟩ = some (I e.q2) ∧ w'.cell? ⟨g, 9, none⟩ = some (I e.q3) ∧ w'.cell? ⟨ta, 0, none⟩ = some (I m0) ∧ w'.cell? ⟨ta, 1, none⟩ = some (I m1) ∧ w'.cell? ⟨ta, 2, none⟩ = some (I m2) ∧ w'.cell? ⟨ta, 3, none⟩ = some (I m3))) := Lib.hid (fun w' e' R T => ⟨R.cell 6, R.cell 7, R.cell 8, R.cell 9, T.cell 0, T.cell 1, T.cell 2, T.cell 3⟩); have zTA := TA.out.row.lt; have MW := M; clear M; have M := Lib.hid (Sw.of MW.out.row)
  go_upto_region 2 with fail
  go_cut [4, 5] (fun v4 v5 wc => ∃ tb : Nat, v4 = .pointer (some ⟨tb, 0, none⟩) ∧ v5 = .bool F2 ∧ Hid (Tb w 0 tb 26 #[I p0, I p1, I p2, I p3] wc) ∧ Hid (Sw w [] g (wk c { e with sat := ((e.sat || PQ.od s.g0) || PQ.od s.g1) || PQ.od s.g2 } s 0 0 0) wc))
  case first =>
   go_region_held3 (fun w' => (w'.cell? ⟨g, 6, none⟩ = some (I e.q0) ∧ w'.cell? ⟨g, 7, none⟩ = some (I e.q1) ∧ w'.cell? ⟨g, 8, none⟩ = some (I e.q2) ∧ w'.cell? ⟨g, 9, none⟩ = some (I e.q3) ∧ w'.cell? ⟨ta, 0, none⟩ = some (I m0) ∧ w'.cell? ⟨ta, 1, none⟩ = some (I m1) ∧ w'.cell? ⟨ta, 2, none⟩ = some (I m2) ∧ w'.cell? ⟨ta, 3, none⟩ = some (I m3)))
    (first | with_reducible exact K2.out _ _ (M.out).row (TA.out).row | with_reducible exact K2.out _ _ (M.out.drew).row (TA.out.drew).row | with_reducible exact K2.out _ _ (M.out.alloc _).row (TA.out.alloc _).row | with_reducible exact K2.out _ _ (M.out.drew.alloc _).row (TA.out.drew.alloc _).row | with_reducible exact K2.out _ _ ((M.out.alloc _).drew).row ((TA.out.alloc _).drew).row | with_reducible exact K2.out _ _ (M.out.AP TB.out.le _ _ _ _).row (TA.out.NL (DN zTA TB.out.le) _ _ _ _).row | with_reducible exact K2.out _ _ ((M.out.alloc _).AP M.out.le' _ _ _ _).row ((TA.out.alloc _).NL (DN zTA M.out.le') _ _ _ _).row)
    (first
      | (go_at_call 86
         first
          | ((with_reducible refine (G2.out _).mono ?_)
             rintro r wn ⟨rfl, hb⟩
             with_reducible have M' := Lib.hid (M.out.drew.below hb)
             have X5 := Lib.hid (Tb.below (TA.out.drew) hb); clear hb M TA; have M := M'; clear M'; have TA := X5
             clear X5)
          | ((with_reducible refine (G2.out _).mono ?_)
             rintro r wn ⟨rfl, hb⟩
             with_reducible have M' := Lib.hid ((M.out.drew.alloc _).below hb)
             have TB := Lib.hid (Tb.below (Tb.mJ 26 #[I 0, I 0, I 0, I 0] M.out.drew) hb); have kc := TB.out.row.cell; have kf := TB.out.row.free; have zt := TB.out.row.lt; have X5 := Lib.hid (Tb.below ((TA.out.drew.alloc _)) hb); clear hb M TA; have M := M'; clear M'; have TA := X5
             clear X5)
          | ((with_reducible refine (G2.out _).mono ?_)
             rintro r wn ⟨rfl, hb⟩
             with_reducible have M' := Lib.hid ((M.out.alloc _).drew.below hb)
             have TB := Lib.hid (Tb.below (Tb.drew (Tb.mJ 26 #[I 0, I 0, I 0, I 0] M.out)) hb); have kc := TB.out.row.cell; have kf := TB.out.row.free; have zt := TB.out.row.lt; have X5 := Lib.hid (Tb.below ((TA.out.alloc _).drew) hb); clear hb M TA; have M := M'; clear M'; have TA := X5
             clear X5)))
   all_goals (go_wp2_with fail; go_meet)
   all_goals
    first
     | with_reducible exact ⟨_, rfl, rfl, Lib.hid ((TB.out.wo _ _ _ _).up MW.out.gr.size), Lib.hid (MW.out.up (M.out.AP TB.out.le _ _ _ _))⟩
     | with_reducible exact ⟨_, rfl, rfl, Lib.hid ((Tb.mJ 26 _ M.out).up MW.out.gr.size), Lib.hid (MW.out.up (M.out.alloc _))⟩
  case rest =>
   clear M MW K2 TA zTA; obtain ⟨tc, rfl, rfl, TC, M⟩ := hcut; have xc := TC.out.row.cell
   go_wp2_with fail
   refine (G3.out _).mono ?_
   rintro r w3 ⟨rfl, hb⟩; have M3 := Lib.hid ((M.out.below hb).alloc (.cells #[I n0, I n1, I n2, I n3] 26)); have TN := Lib.hid (Tb.mJ 26 #[I n0, I n1, I n2, I n3] (M.out.below hb)); clear hb M TC xc
   go_upto_region 4 with fail
   generalize w3.alloc (.cells #[I n0, I n1, I n2, I n3] 26) = wd at M3 TN ⊢; generalize w3.heap.size = tn at TN ⊢; have zTN := TN.out.row.lt; have M := Lib.hid (Sw.of M3.out.row); have K4 : Hid (∀ w' e', Row w' g 111 (wk c e' s 0 0 0) → Row w' tn 26 #[I n0, I n1, I n2, I n3] → (w'.cell? ⟨g, 39, none⟩ = some (I s.a0) ∧ w'.cell? ⟨g, 40, none⟩ = some (I s.a1) ∧ w'.cell? ⟨g, 41, none⟩ = some (I s.a2) ∧ w'.cell? ⟨tn, 0, none⟩ = some (I n0) ∧ w'.cell? ⟨tn, 1, none⟩ = some (I n1) ∧ w'.cell? ⟨tn, 2, none⟩ = some (I n2) ∧ w'.cell? ⟨tn, 3, none⟩ = some (I n3))) := Lib.hid (fun w' e' R T => ⟨R.cell 39, R.cell 40, R.cell 41, T.cell 0, T.cell 1, T.cell 2, T.cell 3⟩)
   go_cut [8, 9] (fun v8 v9 wc => ∃ tb : Nat, v8 = .pointer (some ⟨tb, 0, none⟩) ∧ v9 = .bool F4 ∧ Hid (Tb w 0 tb 53 #[I y0, I y1, I y2] wc) ∧ Hid (Tb w 0 tn 26 #[I n0, I n1, I n2, I n3] wc) ∧ Hid (Sw w [] g (wk c { e with sat := (((((e.sat || PQ.od s.g0) || PQ.od s.g1) || PQ.od s.g2) || PQ.od s.a0) || PQ.od s.a1) || PQ.od s.a2 } s 0 0 0) wc))
   case first =>
    go_region_held3 (fun w' => (w'.cell? ⟨g, 39, none⟩ = some (I s.a0) ∧ w'.cell? ⟨g, 40, none⟩ = some (I s.a1) ∧ w'.cell? ⟨g, 41, none⟩ = some (I s.a2) ∧ w'.cell? ⟨tn, 0, none⟩ = some (I n0) ∧ w'.cell? ⟨tn, 1, none⟩ = some (I n1) ∧ w'.cell? ⟨tn, 2, none⟩ = some (I n2) ∧ w'.cell? ⟨tn, 3, none⟩ = some (I n3)))
     (first | with_reducible exact K4.out _ _ (M.out).row (TN.out).row | with_reducible exact K4.out _ _ (M.out.drew).row (TN.out.drew).row | with_reducible exact K4.out _ _ (M.out.alloc _).row (TN.out.alloc _).row | with_reducible exact K4.out _ _ (M.out.drew.alloc _).row (TN.out.drew.alloc _).row | with_reducible exact K4.out _ _ ((M.out.alloc _).drew).row ((TN.out.alloc _).drew).row | with_reducible exact K4.out _ _ (M.out.mM TB.out.le _ _ _).row (TN.out.rG (DN zTN TB.out.le) _ _ _).row | with_reducible exact K4.out _ _ ((M.out.alloc _).mM M.out.le' _ _ _).row ((TN.out.alloc _).rG (DN zTN M.out.le') _ _ _).row)
     (first
       | (go_at_call 88
          first
           | ((with_reducible refine (G4.out _).mono ?_)
              rintro r wn ⟨rfl, hb⟩
              with_reducible have M' := Lib.hid (M.out.below hb)
              (try (have GK := Lib.hid (Tb.below (TB.out) hb); clear TB kc kf zt; have TB := GK; clear GK; have kc := TB.out.row.cell; have kf := TB.out.row.free; have zt := TB.out.row.lt))
              have P6 := Lib.hid (Tb.below (TN.out) hb); clear hb M TN; have M := M'; clear M'; have TN := P6
              clear P6)
           | ((with_reducible refine (G4.out _).mono ?_)
              rintro r wn ⟨rfl, hb⟩
              with_reducible have M' := Lib.hid ((M.out.alloc _).below hb)
              have TB := Lib.hid (Tb.below (Tb.mJ 53 #[I 0, I 0, I 0] M.out) hb); have kc := TB.out.row.cell; have kf := TB.out.row.free; have zt := TB.out.row.lt; have P6 := Lib.hid (Tb.below ((TN.out.alloc _)) hb); clear hb M TN; have M := M'; clear M'; have TN := P6
              clear P6))
       | (go_at_call 85
          first
           | ((with_reducible refine (kV g c _ s 0 0 0 s.a0 s.a1 s.a2 _ M.out.drew.row).mono ?_)
              rintro r wn ⟨rfl, hw⟩
              with_reducible have M' := Lib.hid (M.out.drew.work hw)
              have P6 := Lib.hid (Tb.work (TN.out.drew) hg hw.gr); clear hw M TN; have M := M'; clear M'; have TN := P6
              clear P6)
           | ((with_reducible refine (kV g c _ s 0 0 0 s.a0 s.a1 s.a2 _ (M.out.drew.alloc _).row).mono ?_)
              rintro r wn ⟨rfl, hw⟩
              with_reducible have M' := Lib.hid ((M.out.drew.alloc _).work hw)
              have TB := Lib.hid (Tb.work (Tb.mJ 53 #[I 0, I 0, I 0] M.out.drew) M.out.lt hw.gr); have kc := TB.out.row.cell; have kf := TB.out.row.free; have zt := TB.out.row.lt; have P6 := Lib.hid (Tb.work ((TN.out.drew.alloc _)) hg hw.gr); clear hw M TN; have M := M'; clear M'; have TN := P6
              clear P6)
           | ((with_reducible refine (kV g c _ s 0 0 0 s.a0 s.a1 s.a2 _ (M.out.alloc _).drew.row).mono ?_)
              rintro r wn ⟨rfl, hw⟩
              with_reducible have M' := Lib.hid ((M.out.alloc _).drew.work hw)
              have TB := Lib.hid (Tb.work (Tb.drew (Tb.mJ 53 #[I 0, I 0, I 0] M.out)) M.out.lt hw.gr); have kc := TB.out.row.cell; have kf := TB.out.row.free; have zt := TB.out.row.lt; have P6 := Lib.hid (Tb.work ((TN.out.alloc _).drew) hg hw.gr); clear hw M TN; have M := M'; clear M'; have TN := P6
              clear P6)))
    all_goals (go_wp2_with fail; go_meet)
    all_goals
     first
      | with_reducible exact ⟨_, rfl, rfl, Lib.hid ((TB.out.dK _ _ _).up M3.out.gr.size), Lib.hid (TN.out.rG (DN zTN TB.out.le) _ _ _), Lib.hid (M3.out.up (M.out.mM TB.out.le _ _ _))⟩
      | with_reducible exact ⟨_, rfl, rfl, Lib.hid ((Tb.mJ 53 _ M.out).up M3.out.gr.size), Lib.hid (TN.out.alloc _), Lib.hid (M3.out.up (M.out.alloc _))⟩
   case rest =>
    clear M M3 K4 TN zTN; obtain ⟨ty, rfl, rfl, TY, TN, M⟩ := hcut; have K5 : Hid (∀ w', Row w' ty 53 #[I y0, I y1, I y2] → Row w' tn 26 #[I n0, I n1, I n2, I n3] → (w'.cell? ⟨ty, 0, none⟩ = some (I y0) ∧ w'.cell? ⟨ty, 1, none⟩ = some (I y1) ∧ w'.cell? ⟨ty, 2, none⟩ = some (I y2) ∧ w'.cell? ⟨tn, 0, none⟩ = some (I n0) ∧ w'.cell? ⟨tn, 1, none⟩ = some (I n1) ∧ w'.cell? ⟨tn, 2, none⟩ = some (I n2) ∧ w'.cell? ⟨tn, 3, none⟩ = some (I n3))) := Lib.hid (fun w' R T => ⟨R.cell 0, R.cell 1, R.cell 2, T.cell 0, T.cell 1, T.cell 2, T.cell 3⟩); have MW : Hid (jP w g c { e with sat := (((((e.sat || PQ.od s.g0) || PQ.od s.g1) || PQ.od s.g2) || PQ.od s.a0) || PQ.od s.a1) || PQ.od s.a2 } s 0 0 0 wc) := Lib.hid ⟨M.out.row, M.out.gr⟩; have hcw := M.out.row.cell; have hfw := M.out.row.free
    have n1' : ty ≠ g := by have := TY.out.le; omega
    have n2' : tn ≠ g := by have := TN.out.le; omega
    go_upto_region 5 with fail
    go_cut [] (fun wc => Hid (jP w g c { { e with sat := (((((e.sat || PQ.od s.g0) || PQ.od s.g1) || PQ.od s.g2) || PQ.od s.a0) || PQ.od s.a1) || PQ.od s.a2 } with q0 := n0, q1 := n1, q2 := n2, q3 := n3 } s y0 y1 y2 wc))
    case first =>
     go_region_held3 (fun w' => (w'.cell? ⟨ty, 0, none⟩ = some (I y0) ∧ w'.cell? ⟨ty, 1, none⟩ = some (I y1) ∧ w'.cell? ⟨ty, 2, none⟩ = some (I y2) ∧ w'.cell? ⟨tn, 0, none⟩ = some (I n0) ∧ w'.cell? ⟨tn, 1, none⟩ = some (I n1) ∧ w'.cell? ⟨tn, 2, none⟩ = some (I n2) ∧ w'.cell? ⟨tn, 3, none⟩ = some (I n3)))
      (first | with_reducible exact K5.out _ TY.out.row TN.out.row | with_reducible exact K5.out _ TY.out.row.drew TN.out.row.drew | with_reducible exact K5.out _ (Row.drew (Row.NL TY.out.row n1' _ _ _ _)) (Row.drew (Row.NL TN.out.row n2' _ _ _ _)) | with_reducible exact K5.out _ (Row.drew (Row.XU TY.out.row n1' _ _ _ _ _ _ _)) (Row.drew (Row.XU TN.out.row n2' _ _ _ _ _ _ _)))
      (fail)
     go_wp2_with fail
     go_meet
     with_reducible exact Lib.hid ((MW.out).step (Qo M.out.row n0 n1 n2 n3 y0 y1 y2).drew)
    case rest =>
     clear M TY TN K5 hcw hfw MW; have M := hcut; clear hcut
     cases F1
     · cases F2
       · cases F3
         · go_wp2_with fail
           refine (m_ g c _ s y0 y1 y2 F4 _ M.out.row).mono ?_
           rintro r w9 ⟨rfl, hw⟩; have W9 := Lib.hid (M.out.step hw); clear hw M; go_wp2
           go_end0
           exact ⟨rfl, W9.out⟩
         · go_wp2_with fail
           refine (m_ g c _ s y0 y1 y2 true _ M.out.row).mono ?_
           rintro r w9 ⟨rfl, hw⟩; have W9 := Lib.hid (M.out.step hw); clear hw M; go_wp2
           go_end0
           exact ⟨rfl, W9.out⟩
       · go_wp2_with fail
         refine (m_ g c _ s y0 y1 y2 true _ M.out.row).mono ?_
         rintro r w9 ⟨rfl, hw⟩; have W9 := Lib.hid (M.out.step hw); clear hw M; go_wp2
         go_end0
         exact ⟨rfl, W9.out⟩
     · go_wp2_with fail
       refine (m_ g c _ s y0 y1 y2 true _ M.out.row).mono ?_
       rintro r w9 ⟨rfl, hw⟩; have W9 := Lib.hid (M.out.step hw); clear hw M; go_wp2
       go_end0
       exact ⟨rfl, W9.out⟩
end Go.Proofs.YtcfobekkchhbbaaGreat.EE

namespace Go.Proofs.YtcfobekkchhbbaaGreat.EE
open Go.RowKit Go.Proofs.YtcfobekkchhbbaaGreat.KK Go.Proofs.af.aU Go.Proofs.af.a_ Go.Proofs.af.bf
set_option linter.unusedVariables false
set_option linter.unusedSimpArgs false
theorem Rd.gr {w w' : World} {A : Option Addr} {l : List Int} {g : Nat} (h : Rd w A l) (hg : w.grownBy w' (some g)) (ne : ∀ ad, A = some ad → ad.block ≠ g) : Rd w' A l :=
 ⟨h.1, h.2.1, fun hp => by
   obtain ⟨ad, e, hc⟩ := h.2.2 hp; refine ⟨ad, e, fun j x hx => ?_⟩
   obtain ⟨c, p, hr, hcell⟩ := hc j x hx; refine ⟨c, p, hr, fun i u hu => ?_⟩
   have hx := hcell i u hu; have hb := uO ad (j * (Kd.int .i64).sz + i)
   rw [World.cell?_of_block (hg.block _ (cell_lt hx) (fun e' => by
    injection e' with e'
    rw [hb] at e'; exact ne ad e e'))]
   exact hx⟩
structure Rg (o : Prop) (g : Nat) (w : World) (A : Option Addr) (l : List Int) : Prop where
 rd : Rd w A l
 nr : ∀ ad, A = some ad → (o ∧ ad.block + 2 < g) ∨ g < ad.block
theorem Rg.ne {o : Prop} {w : World} {g : Nat} {A : Option Addr} {l : List Int} (h : Rg o g w A l) : ∀ ad, A = some ad → ad.block ≠ g := fun ad e => by rcases h.nr ad e with ⟨_, h⟩ | h <;> omega
theorem aaI {o : Prop} {n g : Nat} {A1 A2 Ax Ap : Option Addr} (nb : ∀ b, b < n → (∀ ad, A1 = some ad → ad.block ≠ b) → (∀ ad, A2 = some ad → ad.block ≠ b) → (∀ ad, Ax = some ad → ad.block ≠ b) ∧ (∀ ad, Ap = some ad → ad.block ≠ b)) (hg : g < n)
 (h1 : ∀ ad, A1 = some ad → (o ∧ ad.block + 2 < g) ∨ g < ad.block) (h2 : ∀ ad, A2 = some ad → (o ∧ ad.block + 2 < g) ∨ g < ad.block) : (∀ ad, Ax = some ad → (o ∧ ad.block + 2 < g) ∨ g < ad.block) ∧ (∀ ad, Ap = some ad → (o ∧ ad.block + 2 < g) ∨ g < ad.block) := by
 refine ⟨fun ad e => ?_, fun ad e => ?_⟩
 all_goals
  apply Classical.byContradiction
  intro h
  have hn : ad.block < n := by
   rcases Nat.lt_or_ge ad.block n with hl | hl
   · exact hl
   · exact absurd (.inr (by omega)) h
  have hb := nb ad.block hn (fun ad' e' he => by
   rcases h1 ad' e' with ⟨h3, h4⟩ | h4
   · exact h (.inl ⟨h3, by omega⟩)
   · exact h (.inr (by omega))) (fun ad' e' he => by
   rcases h2 ad' e' with ⟨h3, h4⟩ | h4
   · exact h (.inl ⟨h3, by omega⟩)
   · exact h (.inr (by omega)))
  first | exact hb.1 ad e rfl | exact hb.2 ad e rfl
section
variable {o : Prop} {w w' : World} {g : Nat} {A : Option Addr} {l : List Int}
theorem Rg.below (h : Rg o g w A l) (hb : Below w.heap.size w w') : Rg o g w' A l := ⟨h.rd.below hb, h.nr⟩
theorem Rg.alloc (h : Rg o g w A l) (x : Obj) : Rg o g (w.alloc x) A l := h.below ((Below.refl _ _).alloc (Nat.le_refl _) x)
theorem Rg.drew (h : Rg o g w A l) : Rg o g w.drew A l := h.below (Below.refl _ _).drew
theorem Rg.gr (h : Rg o g w A l) (hg : w.grownBy w' (some g)) : Rg o g w' A l := ⟨Rd.gr h.rd hg h.ne, h.nr⟩
theorem Rg.own {base : Nat} {c : Nat} (h : Own w base (.slice A l.length c) l) (hg : g < base) : Rg o g w A l :=
 ⟨(PR.Own.rd h).1, fun ad e => by
   subst e; have := (h.row.lt ad.block rfl).1; exact .inr (by omega)⟩
theorem BC (w : World) (k : Nat) (a b c : Value) : w.grownBy (KK.dK w k a b c) (some k) := dJ (dJ (dJ (gG _ _) _ _) _ _) _ _
theorem Rg.rG (h : Rg o g w A l) {k : Nat} (ne : ∀ ad, A = some ad → ad.block ≠ k) (a b c : Value) : Rg o g (KK.dK w k a b c) A l := ⟨Rd.gr h.rd (BC w k a b c) ne, h.nr⟩
theorem Tb.Nk {w0 w1 : World} {n tb c : Nat} {t : TypeId} {cs : Array Value} (h : Tb w0 n tb t cs w) (ho : Own w1 w.heap.size (.slice A l.length c) l) : ∀ ad, A = some ad → ad.block ≠ tb := fun ad e => by
 subst e; have := (ho.row.lt ad.block rfl).1; have := h.row.lt; omega
theorem Rd.new (w : World) (t : TypeId) (l : List Int) (hl : l.length ≤ 1000) : Rd (w.alloc (.cells (l.map I).toArray t)) (some ⟨w.heap.size, 0, none⟩) l := by
 refine ⟨rfl, by show l.length ≤ _; omega, fun hp => ⟨_, rfl, fun j x hx => ?_⟩⟩
 have R := Row.new w t (l.map I).toArray; refine ⟨[I x], by first | rfl | (show _ ≤ _; omega) | trivial, rfl, fun k u hu => ?_⟩
 have hk : k = 0 := by
  cases k with
  | zero => rfl
  | succ k => simp at hu
 subst hk
 simp at hu
 subst hu; have h1 : (Kd.int .i64).sz = 1 := rfl
 have ea : ∀ n, (⟨w.heap.size, 0, none⟩ : Addr).add n = ⟨w.heap.size, 0 + n, none⟩ := fun n => by unfold Addr.add; split <;> simp_all
 rw [h1, Nat.mul_one, Nat.add_zero, ea, Nat.zero_add, R.cell]
 simp [hx]
theorem Rd.put {w : World} {b off j : Nat} {l : List Int} (h : Rd w (some ⟨b, off, none⟩) l) (hj : j < l.length) (v : Int) : Rd (w.setCell ⟨b, off + j, none⟩ (I v)) (some ⟨b, off, none⟩) (l.set j v) := by
 refine ⟨by simp, by simpa using h.2.1, fun hp => ⟨_, rfl, fun i x hx => ?_⟩⟩
 obtain ⟨ad, e, hc⟩ := h.2.2 (by omega)
 injection e with e
 subst e; rw [List.getElem?_set] at hx
 have hi : i < l.length := by
  rcases Nat.lt_or_ge i l.length with hl | hl
  · exact hl
  · split at hx
    · rename_i h0; subst h0; omega
    · rw [List.getElem?_eq_none hl] at hx; cases hx
 obtain ⟨c, p, hr, hcell⟩ := hc i _ (List.getElem?_eq_getElem hi); have e : c = [I l[i]] := hr; subst e; have h1 : (Kd.int .i64).sz = 1 := rfl; have h0 := hcell 0 _ rfl; rw [h1, Nat.mul_one, Nat.add_zero] at h0; refine ⟨[I x], p, rfl, fun k u hu => ?_⟩
 have hk : k = 0 := by
  cases k with
  | zero => rfl
  | succ k => simp at hu
 subst hk
 simp at hu
 subst hu; rw [h1, Nat.mul_one, Nat.add_zero]
 have ea : ∀ n, (⟨b, off, none⟩ : Addr).add n = ⟨b, off + n, none⟩ := fun n => by unfold Addr.add; split <;> simp_all
 rw [ea] at h0 ⊢
 by_cases hij : j = i
 · subst hij
   rw [if_pos rfl, if_pos hj] at hx
   injection hx with hx
   subst hx; exact World.cell?_setCell_same' _ _ _ (by rw [h0]; rfl)
 · rw [if_neg hij, List.getElem?_eq_getElem hi] at hx
   injection hx with hx
   subst hx; rw [World.cell?_setCell_other _ _ _ _ (fun e => by injection e with _ e; omega)]; exact h0
theorem Row.range {B : Nat} {t : TypeId} {C : Array Value} (R : Row w B t C) (o : Nat) (cs : List Value) (h : (C.extract o (o + cs.length)).toList = cs) : w.rangeAt B o cs := by
 have := World.rangeAt_of_block R o cs.length
 rwa [h] at this
theorem Sw.set' {w0 : World} {C : Array Value} (h : Sw w0 [] g C w) {p : Addr} (hp : w0.heap.size ≤ p.block) (u : Value) : Sw w0 [] g C (w.setCell p u) := h.set (by simpa using hp) u
theorem Rg.set (h : Rg o g w A l) {b i : Nat} (ne : ∀ ad, A = some ad → ad.block ≠ b) (u : Value) : Rg o g (w.setCell ⟨b, i, none⟩ u) A l := ⟨Rd.gr h.rd (dJ (gG _ _) _ _) ne, h.nr⟩
end
end Go.Proofs.YtcfobekkchhbbaaGreat.EE

namespace Go.Proofs.YtcfobekkchhbbaaGreat.EE
open Go.RowKit Go.Proofs.YtcfobekkchhbbaaGreat.KK Go.Proofs.af.aU Go.Proofs.af.a_ Go.Proofs.af.bf
set_option linter.unusedVariables false
set_option linter.unusedSimpArgs false
structure Rx (o : Prop) (g : Nat) (w : World) (t : Tr) : Prop where
 x : Rg o g w t.A t.x
 xc : t.x.length ≤ t.c
 p : Rg o g w t.B t.p
 pd : t.p.length ≤ t.d
theorem Rx.below {o : Prop} {w w' : World} {g : Nat} {t : Tr} (h : Rx o g w t) (hb : Below w.heap.size w w') : Rx o g w' t := ⟨h.x.below hb, h.xc, h.p.below hb, h.pd⟩
theorem Rx.gr {o : Prop} {w w' : World} {g : Nat} {t : Tr} (h : Rx o g w t) (hg : w.grownBy w' (some g)) : Rx o g w' t := ⟨h.x.gr hg, h.xc, h.p.gr hg, h.pd⟩
def Nw (g : Nat) (t : Tr) : Prop := (∀ ad, t.A = some ad → g < ad.block) ∧ (∀ ad, t.B = some ad → g < ad.block)
theorem Rg.strict {o : Prop} {w : World} {g : Nat} {A : Option Addr} {l : List Int} (h : Rg o g w A l) (k : ∀ ad, A = some ad → g < ad.block) : Rg False g w A l := ⟨h.rd, fun ad e => .inr (k ad e)⟩
theorem Rg.weak {o : Prop} {w : World} {g : Nat} {A : Option Addr} {l : List Int} (h : Rg False g w A l) : Rg o g w A l := ⟨h.rd, fun ad e => (h.nr ad e).elim (fun x => x.1.elim) .inr⟩
theorem Rg.beyond {w : World} {g : Nat} {A : Option Addr} {l : List Int} (h : Rg False g w A l) : ∀ ad, A = some ad → g < ad.block := fun ad e => (h.nr ad e).elim (fun x => x.1.elim) id
theorem Rx.strict {o : Prop} {w : World} {g : Nat} {t : Tr} (h : Rx o g w t) (k : Nw g t) : Rx False g w t := ⟨h.x.strict k.1, h.xc, h.p.strict k.2, h.pd⟩
def Es.ax (e : Es) : Nat → Tr
 | 0 => e.t0
 | 1 => e.t1
 | _ => e.t2
structure AI (w0 : World) (g : Nat) (c : Cf) (e : Es) (s : Sm) (a : Nat → Int) (T : Nat → Tr) (fb qb : Nat) (Af Aq : Option Addr) (cf cq : Nat) (lf lq : List Int) (st : Bool) (w : World) : Prop where
 work : jP w0 g c { e with t0 := T 0, t1 := T 1, t2 := T 2, sat := st } s (a 0) (a 1) (a 2) w
 lt : g < w0.heap.size
 f : Tb w0 0 fb 29 #[I 3, I 3, .slice Af 9 cf] w
 q : Tb w0 0 qb 29 #[I 3, I 3, .slice Aq 9 cq] w
 rf : Rg True g w Af lf
 rq : Rg True g w Aq lq
 rx : ∀ j, j < 3 → Rx True g w (T j)
section
variable {w0 w w' : World} {g : Nat} {c : Cf} {e : Es} {s : Sm} {a : Nat → Int} {T : Nat → Tr} {fb qb : Nat} {Af Aq : Option Addr} {cf cq : Nat} {lf lq : List Int} {st st' : Bool}
theorem AI.below (h : AI w0 g c e s a T fb qb Af Aq cf cq lf lq st w) (hb : Below w.heap.size w w') : AI w0 g c e s a T fb qb Af Aq cf cq lf lq st w' :=
 ⟨h.work.below hb, h.lt, h.f.below hb, h.q.below hb, h.rf.below hb, h.rq.below hb, fun j hj => (h.rx j hj).below hb⟩
theorem AI.alloc (h : AI w0 g c e s a T fb qb Af Aq cf cq lf lq st w) (o : Obj) : AI w0 g c e s a T fb qb Af Aq cf cq lf lq st (w.alloc o) := h.below ((Below.refl _ _).alloc (Nat.le_refl _) o)
theorem AI.drew (h : AI w0 g c e s a T fb qb Af Aq cf cq lf lq st w) : AI w0 g c e s a T fb qb Af Aq cf cq lf lq st w.drew := h.below (Below.refl _ _).drew
theorem AI.told (h : AI w0 g c e s a T fb qb Af Aq cf cq lf lq st w) (k : jP w g c { e with t0 := T 0, t1 := T 1, t2 := T 2, sat := st' } s (a 0) (a 1) (a 2) w') : AI w0 g c e s a T fb qb Af Aq cf cq lf lq st' w' :=
 ⟨h.work.step k, h.lt, h.f.work h.lt k.gr, h.q.work h.lt k.gr, h.rf.gr k.gr, h.rq.gr k.gr, fun j hj => (h.rx j hj).gr k.gr⟩
end
theorem AI.to {w0 w w' : World} {g : Nat} {c : Cf} {e : Es} {s : Sm} {a : Nat → Int} {T : Nat → Tr} {fb qb : Nat} {Af Aq : Option Addr} {cf cq : Nat} {lf lq : List Int} {st st' : Bool} (h : AI w0 g c e s a T fb qb Af Aq cf cq lf lq st w)
 (k : Sw w [] g (wk c { e with t0 := T 0, t1 := T 1, t2 := T 2, sat := st' } s (a 0) (a 1) (a 2)) w') : AI w0 g c e s a T fb qb Af Aq cf cq lf lq st' w' := h.told ⟨k.row, k.gr⟩
abbrev KW (w : World) (g k : Nat) (a b c d e f : Value) : World := (((((w.setCell ⟨g, 10 + k * 6, none⟩ a).setCell ⟨g, 10 + k * 6 + 1, none⟩ b).setCell ⟨g, 10 + k * 6 + 2, none⟩ c).setCell ⟨g, 10 + k * 6 + 3, none⟩ d).setCell ⟨g, 10 + k * 6 + 4, none⟩ e).setCell ⟨g, 10 + k * 6 + 5, none⟩ f
theorem Row.abd {w : World} {b g k : Nat} {t : TypeId} {cs : Array Value} (R : Row w b t cs) (h : b ≠ g) (v0 v1 v2 v3 v4 v5 : Value) : Row (KW w g k v0 v1 v2 v3 v4 v5) b t cs :=
 (((((R.far (p := ⟨g, _, none⟩) h v0).far (p := ⟨g, _, none⟩) h v1).far (p := ⟨g, _, none⟩) h v2).far (p := ⟨g, _, none⟩) h v3).far (p := ⟨g, _, none⟩) h v4).far (p := ⟨g, _, none⟩) h v5
theorem Ee (w : World) (g k : Nat) (v0 v1 v2 v3 v4 v5 : Value) : w.grownBy (KW w g k v0 v1 v2 v3 v4 v5) (some g) := dJ (dJ (dJ (dJ (dJ (dJ (gG _ _) _ _) _ _) _ _) _ _) _ _) _ _
theorem AI.ax {w0 w : World} {g : Nat} {c : Cf} {e : Es} {s : Sm} {a : Nat → Int} {T : Nat → Tr} {fb qb : Nat} {Af Aq : Option Addr} {cf cq : Nat} {lf lq : List Int} {st : Bool} (h : AI w0 g c e s a T fb qb Af Aq cf cq lf lq st w) (k : Nat) (hk : k < 3) (t : Tr) (n : Nat) (hn : t.x.length = n)
 (hx : Rx True g w t) : AI w0 g c e s a (fun j => if j = k then t else T j) fb qb Af Aq cf cq lf lq st (KW w g k (.int .i64 3) (.int .i64 1) (.slice t.A n t.c) (.int .i64 3) (.int .i64 3) (.slice t.B t.p.length t.d)) := by
 subst hn; have hg := Ee w g k (.int .i64 3) (.int .i64 1) (.slice t.A t.x.length t.c) (.int .i64 3) (.int .i64 3) (.slice t.B t.p.length t.d); refine ⟨⟨?_, dU h.work.gr hg⟩, h.lt, h.f.work h.lt hg, h.q.work h.lt hg, h.rf.gr hg, h.rq.gr hg, fun j hj => ?_⟩
 · have R := (((((h.work.row.set (10 + k * 6) (.int .i64 3)).set (10 + k * 6 + 1) (.int .i64 1)).set (10 + k * 6 + 2) (.slice t.A t.x.length t.c)).set (10 + k * 6 + 3) (.int .i64 3)).set (10 + k * 6 + 4) (.int .i64 3)).set (10 + k * 6 + 5) (.slice t.B t.p.length t.d)
   obtain rfl | rfl | rfl : k = 0 ∨ k = 1 ∨ k = 2 := by omega
   all_goals simpa using R
 · by_cases e : j = k
   · simp only [if_pos e]
     exact hx.gr hg
   · simp only [if_neg e]
     exact (h.rx j hj).gr hg
abbrev ab4 (a b r : Int) (o : Bool) : Prop := ∀ w, Calls Tryz.prog 91 #[I a, I b] w fun e w' => e = .returned (.tuple #[I r, .bool o]) ∧ Below w.heap.size w w'
abbrev Oi (a b r : Int) (o : Bool) : Prop := ∀ w, Calls Tryz.prog 92 #[I a, I b] w fun e w' => e = .returned (.tuple #[I r, .bool o]) ∧ Below w.heap.size w w'
abbrev adp (a b r : Int) (o : Bool) : Prop := ∀ w, Calls Tryz.prog 94 #[I a, I b] w fun e w' => e = .returned (.tuple #[I r, .bool o]) ∧ Below w.heap.size w w'
def SS (s0 : Bool) (bp ba o1 o2 o3 : Nat → Bool) : Nat → Bool
 | 0 => s0
 | k + 1 => ((SS s0 bp ba o1 o2 o3 k || bp k) || ba k) || ((o1 k || o2 k) || o3 k)
theorem KX (g : Nat) (c : Cf) (e : Es) (s : Sm) (a : Nat → Int) (less ma mb : Int) (z0 z1 z2 : Bool) (lq : List Int) (X0 B Mm P : Nat → List Int) (o1 o2 o3 bp ba : Nat → Bool) (p y : Nat → Int) (w : World) (R : Row w g 111 (wk c e s (a 0) (a 1) (a 2)))
 (hr : ∀ j, j < 3 → Rx True g w (e.ax j)) (hl : ∀ j, j < 3 → (e.ax j).x.length = 3 ∧ (e.ax j).p.length = 9)
 (hs : ab4 0 c.dt less z0) (hm1 : Oi c.acc c.dt ma z1) (hm2 : Oi c.bias c.dt mb z2) (hq : iH [0, ma, mb] = lq) (hq9 : lq.length = 9) (hin : [0, ma, mb].any ny = false)
 (T : ∀ j, j < 3 → PR.Told 3 (e.ax j).x (e.ax j).p [16777216, c.dt, 0, 0, 16777216, less, 0, 0, 16777216] lq (X0 j) (B j) (Mm j) (P j) (o1 j) (o2 j) (o3 j)) (hx : ∀ j, j < 3 → (X0 j).length = 3)
 (hp : ∀ j, j < 3 → Oi (a j) c.dt (p j) (bp j)) (ha : ∀ j, j < 3 → adp ((X0 j).getD 1 0) (p j) (y j) (ba j)) :
 Calls Tryz.prog 48 #[.pointer (some ⟨g, 0, none⟩)] w fun r w' => r = .returned (.tuple #[]) ∧ ∃ t : Nat → Tr, (∀ j, j < 3 → (t j).x = (X0 j).set 1 (y j) ∧ (t j).p = P j ∧ Rx False g w' (t j)) ∧
  jP w g c { e with t0 := t 0, t1 := t 1, t2 := t 2, sat := SS (((e.sat || z0) || z1) || z2) bp ba o1 o2 o3 3 } s (a 0) (a 1) (a 2) w' := by
 have hg := R.lt; have M0 : Hid (Sw w [] g (wk c e s (a 0) (a 1) (a 2)) w) := Lib.hid (Sw.of R); have HR := Lib.hid hr; have HL := Lib.hid hl; have HS := Lib.hid hs; have HM1 := Lib.hid hm1; have HM2 := Lib.hid hm2; have HQ := Lib.hid hq; have HQ9 := Lib.hid hq9; have HIN := Lib.hid hin; have HT := Lib.hid T; have HX := Lib.hid hx; have HP := Lib.hid hp; have HA := Lib.hid ha; have hc := R.cell; clear R hr hl hs hm1 hm2 hq hq9 hin T hx hp ha
 go_enter Tryz.func48, Tryz.ntmps48
 go_wp2_with fail
 refine (HS.out _).mono ?_
 rintro r w1 ⟨rfl, hb⟩; have M1 := Lib.hid (M0.out.below hb); clear hb M0 hc
 go_wp2_with fail
 refine (nH g c _ s _ _ _ _ _ _ M1.out.row).mono ?_
 rintro r w2 ⟨rfl, hw⟩; have M2 := Lib.hid (M1.out.work hw); clear hw M1; have hc := M2.out.row.cell
 go_upto_region 2 with fail
 have M3 := Lib.hid ((M2.out.alloc (.cells #[.int .i64 16777216, I c.dt, .int .i64 0, .int .i64 0, .int .i64 16777216, I less, .int .i64 0, .int .i64 0, .int .i64 16777216] 22)).alloc (.cells #[.int .i64 3, .int .i64 3, .slice (some ⟨w2.heap.size, 0, none⟩) 9 9] 29)); have TF := Lib.hid (Tb.mJ 29 #[.int .i64 3, .int .i64 3, .slice (some ⟨w2.heap.size, 0, none⟩) 9 9] (M2.out.alloc (.cells #[.int .i64 16777216, I c.dt, .int .i64 0, .int .i64 0, .int .i64 16777216, I less, .int .i64 0, .int .i64 0, .int .i64 16777216] 22)))
 have RF : Hid (Rg True g ((w2.alloc (.cells #[.int .i64 16777216, I c.dt, .int .i64 0, .int .i64 0, .int .i64 16777216, I less, .int .i64 0, .int .i64 0, .int .i64 16777216] 22)).alloc (.cells #[.int .i64 3, .int .i64 3, .slice (some ⟨w2.heap.size, 0, none⟩) 9 9] 29)) (some ⟨w2.heap.size, 0, none⟩) [16777216, c.dt, 0, 0, 16777216, less, 0, 0, 16777216]) :=
  Lib.hid (Rg.alloc ⟨Rd.new w2 22 [16777216, c.dt, 0, 0, 16777216, less, 0, 0, 16777216] (by simp), fun ad e => .inr (by injection e with e; subst e; have := M2.out.lt; have := M2.out.gr.size; simp; omega)⟩ _)
 clear M2 hc; simp only [World.size_alloc] at TF; generalize ((w2.alloc (.cells #[.int .i64 16777216, I c.dt, .int .i64 0, .int .i64 0, .int .i64 16777216, I less, .int .i64 0, .int .i64 0, .int .i64 16777216] 22)).alloc (.cells #[.int .i64 3, .int .i64 3, .slice (some ⟨w2.heap.size, 0, none⟩) 9 9] 29)) = wd at M3 TF RF ⊢; generalize w2.heap.size + 1 = fb at TF ⊢; generalize (some (⟨w2.heap.size, 0, none⟩ : Addr)) = Af at TF RF; have M := Lib.hid (Sw.of M3.out.row); have K2 : Hid (∀ w' e', Row w' g 111 (wk c e' s (a 0) (a 1) (a 2)) → (w'.cell? ⟨g, 0, none⟩ = some (I c.dt) ∧ w'.cell? ⟨g, 1, none⟩ = some (I c.acc) ∧ w'.cell? ⟨g, 2, none⟩ = some (I c.bias))) := Lib.hid (fun w' e' R => ⟨R.cell 0, R.cell 1, R.cell 2⟩); have RL : Hid (∀ w' : World, Rd (w'.alloc (.cells #[.int .i64 0, I ma, I mb] 22)) (some ⟨w'.heap.size, 0, none⟩) [0, ma, mb]) := Lib.hid (fun w' => Rd.new w' 22 [0, ma, mb] (by simp)); have RL2 : Hid (∀ (w' : World) (o : Obj), Rd ((w'.alloc o).alloc (.cells #[.int .i64 0, I ma, I mb] 22)) (some ⟨w'.heap.size + 1, 0, none⟩) [0, ma, mb]) := Lib.hid (fun w' o => by have := Rd.new (w'.alloc o) 22 [0, ma, mb] (by simp); simpa using this)
 have HD : Hid (∀ (nb : Nat) (w' : World), Rd w' (some ⟨nb, 0, none⟩) [0, ma, mb] → Calls Tryz.prog 74 #[.slice (some ⟨nb, 0, none⟩) 3 3] w' fun e w'' => ∃ Aq cq, e = .returned (.tuple #[.agg #[I 3, I 3, .slice Aq 9 cq], I 0]) ∧ 9 ≤ cq ∧ Own w'' w'.heap.size (.slice Aq lq.length cq) lq ∧ Below w'.heap.size w' w'') := Lib.hid (fun nb w' h => by
  have hh := AU (some ⟨nb, 0, none⟩) 3 [0, ma, mb] w' h (by simp) (by simp) HIN.out; refine hh.mono ?_
  rintro e w'' ⟨v, rfl, ho, hb⟩; rw [HQ.out] at ho; obtain ⟨Aq, cq, rfl, hc, _⟩ := Own.reads ho; exact ⟨Aq, cq, by rw [HQ9.out]; rfl, by have := HQ9.out; omega, ho, hb⟩)
 go_cut [4] (fun v4 wc => ∃ (qb : Nat) (Aq : Option Addr) (cq : Nat), v4 = .pointer (some ⟨qb, 0, none⟩) ∧ Hid (9 ≤ cq ∧ Tb w 0 qb 29 #[I 3, I 3, .slice Aq 9 cq] wc ∧ Rg True g wc Aq lq) ∧ Hid (Sw wd [] g (wk c { e with sat := (((e.sat || z0) || z1) || z2) } s (a 0) (a 1) (a 2)) wc))
 case first =>
  go_region_held3 (fun w' => (w'.cell? ⟨g, 0, none⟩ = some (I c.dt) ∧ w'.cell? ⟨g, 1, none⟩ = some (I c.acc) ∧ w'.cell? ⟨g, 2, none⟩ = some (I c.bias)))
   (first | with_reducible exact K2.out _ _ (M.out).row | with_reducible exact K2.out _ _ (M.out.drew).row | with_reducible exact K2.out _ _ (M.out.alloc _).row | with_reducible exact K2.out _ _ (M.out.drew.alloc _).row | with_reducible exact K2.out _ _ ((M.out.alloc _).drew).row | with_reducible exact K2.out _ _ (M.out.mM TB.out.le _ _ _).row | with_reducible exact K2.out _ _ ((M.out.alloc _).mM M.out.le' _ _ _).row | with_reducible exact K2.out _ _ ((M.out.alloc _).alloc _).row)
   (first
     | (go_at_call 74
        first
         | ((with_reducible refine (HD.out _ _ (RL.out _)).mono ?_)
            rintro r wn ⟨Aq, cq, rfl, hcq, ho, hb⟩
            with_reducible have M' := Lib.hid ((M.out.alloc _).below hb)
            (try (have NQ := Lib.hid (Tb.Nk (TB.out.alloc _) ho); have GK := Lib.hid (Tb.below (TB.out.alloc _) hb); clear TB kc kf zt; have TB := GK; clear GK; have kc := TB.out.row.cell; have kf := TB.out.row.free; have zt := TB.out.row.lt))
            have RQ := Lib.hid (Rg.own (o := True) (g := g) ho (M.out.alloc _).row.lt); have QC := Lib.hid hcq; clear hb ho hcq M; have M := M'
            clear M')
         | ((with_reducible refine (HD.out _ _ (Rd.below (RL.out _) ((Below.refl _ _).alloc (Nat.le_refl _) _))).mono ?_)
            rintro r wn ⟨Aq, cq, rfl, hcq, ho, hb⟩
            with_reducible have M' := Lib.hid (((M.out.alloc _).alloc _).below hb)
            have NQ := Lib.hid (Tb.Nk (Tb.mJ 29 #[I 0, I 0, .slice none 0 0] (M.out.alloc _)) ho); have TB := Lib.hid (Tb.below (Tb.mJ 29 #[I 0, I 0, .slice none 0 0] (M.out.alloc _)) hb)
            (try simp only [World.size_alloc] at TB NQ)
            have kc := TB.out.row.cell; have kf := TB.out.row.free; have zt := TB.out.row.lt; have RQ := Lib.hid (Rg.own (o := True) (g := g) ho ((M.out.alloc _).alloc _).row.lt); have QC := Lib.hid hcq; clear hb ho hcq M; have M := M'
            clear M')
         | ((with_reducible refine (HD.out _ _ (RL2.out _ _)).mono ?_)
            rintro r wn ⟨Aq, cq, rfl, hcq, ho, hb⟩
            with_reducible have M' := Lib.hid (((M.out.alloc _).alloc _).below hb)
            have NQ := Lib.hid (Tb.Nk (Tb.alloc (Tb.mJ 29 #[I 0, I 0, .slice none 0 0] M.out) _) ho); have TB := Lib.hid (Tb.below (Tb.alloc (Tb.mJ 29 #[I 0, I 0, .slice none 0 0] M.out) _) hb)
            (try simp only [World.size_alloc] at TB NQ)
            have kc := TB.out.row.cell; have kf := TB.out.row.free; have zt := TB.out.row.lt; have RQ := Lib.hid (Rg.own (o := True) (g := g) ho ((M.out.alloc _).alloc _).row.lt); have QC := Lib.hid hcq; clear hb ho hcq M; have M := M'
            clear M'))
     | (first
     | (go_at_call 92
        first
         | ((with_reducible refine (HM2.out _).mono ?_)
            rintro r wn ⟨rfl, hb⟩
            with_reducible have M' := Lib.hid (M.out.below hb)
            (try (have GK := Lib.hid (Tb.below (TB.out) hb); clear TB kc kf zt; have TB := GK; clear GK; have kc := TB.out.row.cell; have kf := TB.out.row.free; have zt := TB.out.row.lt))
            clear hb M; have M := M'
            clear M')
         | ((with_reducible refine (HM2.out _).mono ?_)
            rintro r wn ⟨rfl, hb⟩
            with_reducible have M' := Lib.hid ((M.out.alloc _).below hb)
            have TB := Lib.hid (Tb.below (Tb.mJ 29 #[I 0, I 0, .slice none 0 0] M.out) hb); have kc := TB.out.row.cell; have kf := TB.out.row.free; have zt := TB.out.row.lt; clear hb M; have M := M'
            clear M'))
     | (go_at_call 90
        first
         | ((with_reducible refine (nH g c _ s _ _ _ _ _ _ M.out.row).mono ?_)
            rintro r wn ⟨rfl, hw⟩
            with_reducible have M' := Lib.hid (M.out.work hw)
            (try (have GK := Lib.hid (Tb.work (TB.out) M.out.lt hw.gr); clear TB kc kf zt; have TB := GK; clear GK; have kc := TB.out.row.cell; have kf := TB.out.row.free; have zt := TB.out.row.lt))
            clear hw M; have M := M'
            clear M')
         | ((with_reducible refine (nH g c _ s _ _ _ _ _ _ (M.out.alloc _).row).mono ?_)
            rintro r wn ⟨rfl, hw⟩
            with_reducible have M' := Lib.hid ((M.out.alloc _).work hw)
            have TB := Lib.hid (Tb.work (Tb.mJ 29 #[I 0, I 0, .slice none 0 0] M.out) M.out.lt hw.gr); have kc := TB.out.row.cell; have kf := TB.out.row.free; have zt := TB.out.row.lt; clear hw M; have M := M'
            clear M'))
     | (go_at_call 92
        first
         | ((with_reducible refine (HM1.out _).mono ?_)
            rintro r wn ⟨rfl, hb⟩
            with_reducible have M' := Lib.hid (M.out.drew.below hb)
            clear hb M; have M := M'
            clear M')
         | ((with_reducible refine (HM1.out _).mono ?_)
            rintro r wn ⟨rfl, hb⟩
            with_reducible have M' := Lib.hid ((M.out.drew.alloc _).below hb)
            have TB := Lib.hid (Tb.below (Tb.mJ 29 #[I 0, I 0, .slice none 0 0] M.out.drew) hb); have kc := TB.out.row.cell; have kf := TB.out.row.free; have zt := TB.out.row.lt; clear hb M; have M := M'
            clear M')
         | ((with_reducible refine (HM1.out _).mono ?_)
            rintro r wn ⟨rfl, hb⟩
            with_reducible have M' := Lib.hid ((M.out.alloc _).drew.below hb)
            have TB := Lib.hid (Tb.below (Tb.drew (Tb.mJ 29 #[I 0, I 0, .slice none 0 0] M.out)) hb); have kc := TB.out.row.cell; have kf := TB.out.row.free; have zt := TB.out.row.lt; clear hb M; have M := M'
            clear M'))))
  all_goals (go_wp2_with fail; go_meet)
  all_goals
   first
    | with_reducible exact ⟨_, _, _, rfl, Lib.hid ⟨QC.out, (TB.out.dK _ _ _).up M3.out.gr.size, RQ.out.rG NQ.out _ _ _⟩, Lib.hid (M.out.mM TB.out.le _ _ _)⟩
    | with_reducible exact ⟨_, _, _, rfl, Lib.hid ⟨QC.out, (Tb.mJ 29 _ M.out).up M3.out.gr.size, RQ.out.alloc _⟩, Lib.hid (M.out.alloc _)⟩
 case rest =>
  clear K2 RL RL2 HD; obtain ⟨qb, Aq, cq, rfl, Q, M⟩ := hcut; have QC := Lib.hid Q.out.1; have A0 : Hid (AI w g c e s a e.ax fb qb Af Aq 9 cq [16777216, c.dt, 0, 0, 16777216, less, 0, 0, 16777216] lq (((e.sat || z0) || z1) || z2) wc) := Lib.hid ⟨⟨M.out.row, dU M3.out.gr M.out.gr⟩, M3.out.lt, TF.out.work M3.out.lt M.out.gr, Q.out.2.1, RF.out.gr M.out.gr, Q.out.2.2, fun j hj => (HR.out j hj).gr (dU M3.out.gr M.out.gr)⟩; have RA := Lib.hid (Row.range M.out.row 10 [I 3, I 1, .slice e.t0.A e.t0.x.length e.t0.c, I 3, I 3, .slice e.t0.B e.t0.p.length e.t0.d, I 3, I 1, .slice e.t1.A e.t1.x.length e.t1.c, I 3, I 3, .slice e.t1.B e.t1.p.length e.t1.d, I 3, I 1, .slice e.t2.A e.t2.x.length e.t2.c, I 3, I 3, .slice e.t2.B e.t2.p.length e.t2.d] rfl); clear M M3 TF RF HR
  go_wp2_with (with_reducible refine wpList_load_mid rfl 32 (.tmp 67) rfl g 10 rfl [I 3, I 1, .slice e.t0.A e.t0.x.length e.t0.c, I 3, I 3, .slice e.t0.B e.t0.p.length e.t0.d, I 3, I 1, .slice e.t1.A e.t1.x.length e.t1.c, I 3, I 3, .slice e.t1.B e.t1.p.length e.t1.d, I 3, I 1, .slice e.t2.A e.t2.x.length e.t2.c, I 3, I 3, .slice e.t2.B e.t2.p.length e.t2.d] _ RA.out Tryz.underlying32 rfl rfl ?_)
  clear RA
  go_loopw [69] (fun i wr => ∃ (k : Nat) (T : Nat → Tr), k ≤ 3 ∧ i = .int .i64 k ∧ Hid ((∀ j, j < k → (T j).x = (X0 j).set 1 (y j) ∧ (T j).p = P j ∧ Nw g (T j)) ∧ (∀ j, k ≤ j → T j = e.ax j)) ∧ Hid (AI w g c e s a T fb qb Af Aq 9 cq [16777216, c.dt, 0, 0, 16777216, less, 0, 0, 16777216] lq (SS (((e.sat || z0) || z1) || z2) bp ba o1 o2 o3 k) wr)) (fun i _ => 3 - (intOf i).toNat)
  case atStart => exact ⟨0, e.ax, by omega, rfl, Lib.hid ⟨fun j hj => absurd hj (Nat.not_lt_zero j), fun j _ => rfl⟩, A0⟩
  case round =>
   clear A0; obtain ⟨k, T, hk, rfl, TT, A⟩ := hrel
   by_cases hlt : k < 3
   case neg =>
    obtain rfl : k = 3 := by omega
    go_wp2
    go_end0
    exact ⟨rfl, T, fun j hj => ⟨(TT.out.1 j hj).1, (TT.out.1 j hj).2.1, (A.out.rx j hj).strict (TT.out.1 j hj).2.2⟩, A.out.work⟩
   have ix : ∀ w', (Instr.index 32 (.agg #[I 3, I 1, .slice e.t0.A e.t0.x.length e.t0.c, I 3, I 3, .slice e.t0.B e.t0.p.length e.t0.d, I 3, I 1, .slice e.t1.A e.t1.x.length e.t1.c, I 3, I 3, .slice e.t1.B e.t1.p.length e.t1.d, I 3, I 1, .slice e.t2.A e.t2.x.length e.t2.c, I 3, I 3, .slice e.t2.B e.t2.p.length e.t2.d]) (.int .i64 k)).run Tryz.prog w' = .ok (.agg (Tr.row (e.ax k))) w' := fun w' => by
    obtain rfl | rfl | rfl : k = 0 ∨ k = 1 ∨ k = 2 := by omega
    all_goals kernel_rfl
   have RT : Hid (Rx True g wr (e.ax k)) := Lib.hid (by have := A.out.rx k hlt; rwa [TT.out.2 k (Nat.le_refl _)] at this)
   have HPr : Hid (∀ w', Rd w' (e.ax k).A (e.ax k).x → Rd w' (e.ax k).B (e.ax k).p → Rd w' Af [16777216, c.dt, 0, 0, 16777216, less, 0, 0, 16777216] → Rd w' Aq lq → Calls Tryz.prog 93 #[.agg (Tr.row (e.ax k)), .agg #[I 3, I 3, .slice Af 9 9], .agg #[I 3, I 3, .slice Aq 9 cq]] w' fun e w'' => ∃ Ax dx Ap dp, e = .returned (.tuple #[.agg #[I 3, I 1, .slice Ax 3 dx, I 3, I 3, .slice Ap (P k).length dp], .bool ((o1 k || o2 k) || o3 k), I 0]) ∧ Own w'' w'.heap.size (.slice Ax (X0 k).length dx) (X0 k) ∧ Own w'' w'.heap.size (.slice Ap (P k).length dp) (P k) ∧ (∀ q, (Value.slice Ax (X0 k).length dx).ownBlock = some q → (Value.slice Ap (P k).length dp).ownBlock ≠ some q) ∧ Below w'.heap.size w' w'') := Lib.hid (fun w' r1 r2 r3 r4 => by
    have hh := PR.Fq 3 (e.ax k).A (e.ax k).B Af Aq (e.ax k).c (e.ax k).d 9 cq (e.ax k).x (e.ax k).p [16777216, c.dt, 0, 0, 16777216, less, 0, 0, 16777216] lq _ _ _ _ _ _ _ w' (by decide) (by decide) (HL.out k hlt).1 (HL.out k hlt).2 rfl HQ9.out (HT.out k hlt) r1 RT.out.xc r2 RT.out.pd r3 (Nat.le_refl _) r4 (by rw [HQ9.out]; exact QC.out); rw [HQ9.out] at hh; have h3 := HX.out k hlt; refine hh.mono ?_
    rintro e w'' ⟨Ax, dx, Ap, dp, rfl, hh⟩; exact ⟨Ax, dx, Ap, dp, by rw [h3]; rfl, hh⟩)
   obtain ⟨tk, htk⟩ : ∃ tk, e.ax k = tk := ⟨_, rfl⟩
   rw [htk] at ix RT HPr; obtain ⟨tA, tc, tx, tB, td, tp⟩ := tk; have HTK := Lib.hid htk; clear htk; have hd : decide ((k : Int) < 3) = true := decide_eq_true (by omega); have cf := A.out.f.row.cell; have cqq := A.out.q.row.cell; have zf := A.out.f.row.lt; have zq := A.out.q.row.lt
   go_wp2_with fail
   refine (HPr.out _ (RT.out.x.alloc _).rd (RT.out.p.alloc _).rd (A.out.rf.alloc _).rd (A.out.rq.alloc _).rd).mono ?_
   rintro r w1 ⟨Ax, dx, Ap, dp, rfl, ox, op, hne, hb⟩; obtain ⟨bx, rfl, hbx⟩ := PR.Own.form ox (by rw [HX.out k hlt]; decide); have A1 := Lib.hid ((A.out.alloc _).below hb); have GX : Hid (wr.heap.size < bx ∧ g < bx ∧ g < wr.heap.size) := Lib.hid (by have h1 := A.out.work.row.lt; simp at hbx; omega); have M := Lib.hid ((((Sw.of A.out.work.row).alloc _).below hb).alloc (.cells #[.int .i64 3, .int .i64 1, .slice (some ⟨bx, 0, none⟩) 3 dx, .int .i64 3, .int .i64 3, .slice Ap (P k).length dp] 31)); have TU := Lib.hid (Tb.mJ 31 #[.int .i64 3, .int .i64 1, .slice (some ⟨bx, 0, none⟩) 3 dx, .int .i64 3, .int .i64 3, .slice Ap (P k).length dp] (((Sw.of A.out.work.row).alloc _).below hb)); have OX := Lib.hid (Own.lower (base' := wr.heap.size) (KK.Own.alloc ox (.cells #[.int .i64 3, .int .i64 1, .slice (some ⟨bx, 0, none⟩) 3 dx, .int .i64 3, .int .i64 3, .slice Ap (P k).length dp] 31)) (by simp)); have NU : Hid (bx < w1.heap.size) := Lib.hid (ox.row.lt bx rfl).2; have RP := Lib.hid ((Rg.own (o := False) (g := g) op (by have h1 := GX.out; simp; omega)).alloc (.cells #[.int .i64 3, .int .i64 1, .slice (some ⟨bx, 0, none⟩) 3 dx, .int .i64 3, .int .i64 3, .slice Ap (P k).length dp] 31)); have NP : Hid (∀ ad, Ap = some ad → ad.block ≠ bx) := Lib.hid (fun ad e h => by subst e; exact hne bx rfl (by rw [← h]; rfl)); have CX : Hid ((X0 k).length ≤ dx ∧ (P k).length ≤ dp) := Lib.hid ⟨(PR.Own.rd ox).2, (PR.Own.rd op).2⟩; clear ox op hne hb A1 cf cqq zf zq ix hbx HPr
   go_upto_region 7 with fail
   generalize (w1.alloc (.cells #[.int .i64 3, .int .i64 1, .slice (some ⟨bx, 0, none⟩) 3 dx, .int .i64 3, .int .i64 3, .slice Ap (P k).length dp] 31)) = wt at M TU OX RP ⊢; generalize w1.heap.size = tu at TU NU ⊢; have HPk := Lib.hid (HP.out k hlt); have HAk := Lib.hid (HA.out k hlt)
   have K7 : Hid (∀ w' e' bs', Row w' g 111 (wk c e' s (a 0) (a 1) (a 2)) → Row w' tu 31 #[.int .i64 3, .int .i64 1, .slice (some ⟨bx, 0, none⟩) 3 dx, .int .i64 3, .int .i64 3, .slice Ap (P k).length dp] → Own w' bs' (.slice (some ⟨bx, 0, none⟩) (X0 k).length dx) (X0 k) → (w'.cell? ⟨tu, 2, none⟩ = some (.slice (some ⟨bx, 0, none⟩) 3 dx) ∧ w'.cell? ⟨bx, 1, none⟩ = some (I ((X0 k).getD 1 0)) ∧ w'.cell? ⟨g, 48 + k, none⟩ = some (I (a k)) ∧ w'.cell? ⟨g, 0, none⟩ = some (I c.dt))) := Lib.hid (fun w' e' bs' R U O => by
    have hx3 := HX.out k hlt; refine ⟨by rw [U.cell 2, ← hx3]; rfl, ?_, ?_, R.cell 0⟩
    · have := (PR.Own.rd O).1.flat 1 _ (by rw [List.getElem?_map, jw (show 1 < (X0 k).length by omega)]; rfl)
      simpa [Addr.add] using this
    · rw [R.cell]
      obtain rfl | rfl | rfl : k = 0 ∨ k = 1 ∨ k = 2 := by omega
      all_goals rfl)
   have k0 : (0 : Int) ≤ (k : Int) := by omega
   have k3 : (k : Int) < 3 := by omega
   go_cut [] (fun wc => Hid (Sw wr [] g (wk c { e with t0 := T 0, t1 := T 1, t2 := T 2, sat := (SS (((e.sat || z0) || z1) || z2) bp ba o1 o2 o3 k || bp k) || ba k } s (a 0) (a 1) (a 2)) wc) ∧ Hid (Tb wr 0 tu 31 #[.int .i64 3, .int .i64 1, .slice (some ⟨bx, 0, none⟩) 3 dx, .int .i64 3, .int .i64 3, .slice Ap (P k).length dp] wc) ∧ Hid (Rg False g wc (some ⟨bx, 0, none⟩) ((X0 k).set 1 (y k)) ∧ Rg False g wc Ap (P k)))
   case first =>
    refine yP (S := fun w' => (w'.cell? ⟨tu, 2, none⟩ = some (.slice (some ⟨bx, 0, none⟩) 3 dx) ∧ w'.cell? ⟨bx, 1, none⟩ = some (I ((X0 k).getD 1 0)) ∧ w'.cell? ⟨g, 48 + k, none⟩ = some (I (a k)) ∧ w'.cell? ⟨g, 0, none⟩ = some (I c.dt))) 30 (by kernel_rfl) (K7.out _ _ _ M.out.drew.row TU.out.drew.row (OX.out.below (Below.refl _ _).drew)) (fun hHeld => ?_)
    have M' := Lib.hid M.out.drew; have KZ := Lib.hid TU.out.drew; have Qd := Lib.hid (OX.out.below (Below.refl _ _).drew); have Qc := Lib.hid RP.out.drew; clear M TU OX RP; have M := M'; have TU := KZ; have OX := Qd; have RP := Qc; clear M' KZ Qd Qc; refine Until.take (i := 0) (oi := _) (v := ?u1) rfl (by kernel_rfl) (by kernel_rfl) (by kernel_rfl) (by kernel_rfl) (by kernel_rfl) (fun _ _ _ h => h) (Or.inl ⟨by rfl, ?hu1⟩) hHeld ?_
    case hu1 =>
     intro w' hSw
     (try dsimp only at hSw)
     simp only [List.getElem_toArray, List.getElem_cons_succ, List.getElem_cons_zero]
     go_simp
     (try with_reducible rfl)
    change Until _ _ _ _ _ _ _ _ (Act.put _ (some 81) _) _; simp only [Act.put, List.setIfInBounds_toArray, List.set_cons_zero, List.set_cons_succ]; refine Until.take (i := 1) (oi := _) (v := ?u2) rfl (by kernel_rfl) (by kernel_rfl) (by kernel_rfl) (by kernel_rfl) (by kernel_rfl) (fun _ _ _ h => h) (Or.inl ⟨by rfl, ?hu2⟩) hHeld ?_
    case hu2 =>
     intro w' hSw
     (try dsimp only at hSw)
     simp only [List.getElem_toArray, List.getElem_cons_succ, List.getElem_cons_zero]
     go_simp
     (try with_reducible rfl)
    change Until _ _ _ _ _ _ _ _ (Act.put _ (some 82) _) _; simp only [Act.put, List.setIfInBounds_toArray, List.set_cons_zero, List.set_cons_succ]; refine Until.take (i := 2) (oi := _) (v := ?u3) rfl (by kernel_rfl) (by kernel_rfl) (by kernel_rfl) (by kernel_rfl) (by kernel_rfl) (fun _ _ _ h => h) (Or.inl ⟨by rfl, ?hu3⟩) hHeld ?_
    case hu3 =>
     intro w' hSw
     (try dsimp only at hSw)
     simp only [List.getElem_toArray, List.getElem_cons_succ, List.getElem_cons_zero]
     go_simp
     (try with_reducible rfl)
    change Until _ _ _ _ _ _ _ _ (Act.put _ (some 83) _) _; simp only [Act.put, List.setIfInBounds_toArray, List.set_cons_zero, List.set_cons_succ]; refine Until.take (i := 3) (oi := _) (v := ?u4) rfl (by kernel_rfl) (by kernel_rfl) (by kernel_rfl) (by kernel_rfl) (by kernel_rfl) (fun _ _ _ h => h) (Or.inl ⟨by rfl, ?hu4⟩) hHeld ?_
    case hu4 =>
     intro w' hSw
     (try dsimp only at hSw)
     simp only [List.getElem_toArray, List.getElem_cons_succ, List.getElem_cons_zero]
     go_simp
     (try with_reducible rfl)
    change Until _ _ _ _ _ _ _ _ (Act.put _ (some 84) _) _; simp only [Act.put, List.setIfInBounds_toArray, List.set_cons_zero, List.set_cons_succ]; refine Until.take (i := 4) (oi := _) (v := ?u5) rfl (by kernel_rfl) (by kernel_rfl) (by kernel_rfl) (by kernel_rfl) (by kernel_rfl) (fun _ _ _ h => h) (Or.inl ⟨by rfl, ?hu5⟩) hHeld ?_
    case hu5 =>
     intro w' hSw
     (try dsimp only at hSw)
     simp only [List.getElem_toArray, List.getElem_cons_succ, List.getElem_cons_zero]
     go_simp
     (try with_reducible rfl)
    change Until _ _ _ _ _ _ _ _ (Act.put _ (some 85) _) _; simp only [Act.put, List.setIfInBounds_toArray, List.set_cons_zero, List.set_cons_succ]; refine Until.take (i := 5) (oi := _) (v := ?u6) rfl (by kernel_rfl) (by kernel_rfl) (by kernel_rfl) (by kernel_rfl) (by kernel_rfl) (fun _ _ _ h => h) (Or.inl ⟨by rfl, ?hu6⟩) hHeld ?_
    case hu6 =>
     intro w' hSw
     (try dsimp only at hSw)
     simp only [List.getElem_toArray, List.getElem_cons_succ, List.getElem_cons_zero]
     go_simp
     (try with_reducible rfl)
    change Until _ _ _ _ _ _ _ _ (Act.put _ (some 86) _) _; simp only [Act.put, List.setIfInBounds_toArray, List.set_cons_zero, List.set_cons_succ]; refine Until.take (i := 6) (oi := _) (v := ?u7) rfl (by kernel_rfl) (by kernel_rfl) (by kernel_rfl) (by kernel_rfl) (by kernel_rfl) (fun _ _ _ h => h) (Or.inl ⟨by rfl, ?hu7⟩) hHeld ?_
    case hu7 =>
     intro w' hSw
     (try dsimp only at hSw)
     simp only [List.getElem_toArray, List.getElem_cons_succ, List.getElem_cons_zero]
     go_simp
     (try with_reducible rfl)
    change Until _ _ _ _ _ _ _ _ (Act.put _ (some 87) _) _; simp only [Act.put, List.setIfInBounds_toArray, List.set_cons_zero, List.set_cons_succ]; refine Until.take (i := 7) (oi := _) (v := ?u8) rfl (by kernel_rfl) (by kernel_rfl) (by kernel_rfl) (by kernel_rfl) (by kernel_rfl) (fun _ _ _ h => h) (Or.inl ⟨by rfl, ?hu8⟩) hHeld ?_
    case hu8 =>
     intro w' hSw
     (try dsimp only at hSw)
     simp only [List.getElem_toArray, List.getElem_cons_succ, List.getElem_cons_zero]
     go_simp
     (try with_reducible rfl)
    change Until _ _ _ _ _ _ _ _ (Act.put _ (some 88) _) _; simp only [Act.put, List.setIfInBounds_toArray, List.set_cons_zero, List.set_cons_succ]; refine Until.take (i := 8) (oi := _) (v := ?u9) rfl (by kernel_rfl) (by kernel_rfl) (by kernel_rfl) (by kernel_rfl) (by kernel_rfl) (fun _ _ _ h => h) (Or.inl ⟨by rfl, ?hu9⟩) hHeld ?_
    case hu9 =>
     intro w' hSw
     (try dsimp only at hSw)
     simp only [List.getElem_toArray, List.getElem_cons_succ, List.getElem_cons_zero]
     go_simp
     (try with_reducible rfl)
    change Until _ _ _ _ _ _ _ _ (Act.put _ (some 89) _) _; simp only [Act.put, List.setIfInBounds_toArray, List.set_cons_zero, List.set_cons_succ]; refine Until.take (i := 9) (oi := _) (v := ?u10) rfl (by kernel_rfl) (by kernel_rfl) (by kernel_rfl) (by kernel_rfl) (by kernel_rfl) (fun _ _ _ h => h) (Or.inl ⟨by rfl, ?YW⟩) hHeld ?_
    case YW =>
     intro w' hSw
     (try dsimp only at hSw)
     simp only [List.getElem_toArray, List.getElem_cons_succ, List.getElem_cons_zero]
     go_simp
     (try with_reducible rfl)
    change Until _ _ _ _ _ _ _ _ (Act.put _ (some 90) _) _; simp only [Act.put, List.setIfInBounds_toArray, List.set_cons_zero, List.set_cons_succ]; refine Until.take (i := 10) (oi := _) (v := ?u11) rfl (by kernel_rfl) (by kernel_rfl) (by kernel_rfl) (by kernel_rfl) (by kernel_rfl) (fun _ _ _ h => h) (Or.inl ⟨by rfl, ?YV⟩) hHeld ?_
    case YV =>
     intro w' hSw
     (try dsimp only at hSw)
     simp only [List.getElem_toArray, List.getElem_cons_succ, List.getElem_cons_zero]
     go_simp
     (try with_reducible rfl)
    change Until _ _ _ _ _ _ _ _ (Act.put _ (some 91) _) _; simp only [Act.put, List.setIfInBounds_toArray, List.set_cons_zero, List.set_cons_succ]; refine Until.take (i := 11) (oi := _) (v := ?u12) rfl (by kernel_rfl) (by kernel_rfl) (by kernel_rfl) (by kernel_rfl) (by kernel_rfl) (fun _ _ _ h => h) (Or.inl ⟨by rfl, ?YU⟩) hHeld ?_
    case YU =>
     intro w' hSw
     (try dsimp only at hSw)
     simp only [List.getElem_toArray, List.getElem_cons_succ, List.getElem_cons_zero]
     go_simp
     (try with_reducible rfl)
    change Until _ _ _ _ _ _ _ _ (Act.put _ (some 92) _) _; simp only [Act.put, List.setIfInBounds_toArray, List.set_cons_zero, List.set_cons_succ]; refine Until.take (i := 12) (oi := _) (v := ?u13) rfl (by kernel_rfl) (by kernel_rfl) (by kernel_rfl) (by kernel_rfl) (by kernel_rfl) (fun _ _ _ h => h) (Or.inl ⟨by rfl, ?agG⟩) hHeld ?_
    case agG =>
     intro w' hSw
     (try dsimp only at hSw)
     simp only [List.getElem_toArray, List.getElem_cons_succ, List.getElem_cons_zero]
     go_simp
     (try with_reducible rfl)
    change Until _ _ _ _ _ _ _ _ (Act.put _ (some 93) _) _; simp only [Act.put, List.setIfInBounds_toArray, List.set_cons_zero, List.set_cons_succ]; refine Until.take (i := 13) (oi := _) (v := ?u14) rfl (by kernel_rfl) (by kernel_rfl) (by kernel_rfl) (by kernel_rfl) (by kernel_rfl) (fun _ _ _ h => h) (Or.inl ⟨by rfl, ?agF⟩) hHeld ?_
    case agF =>
     intro w' hSw
     (try dsimp only at hSw)
     simp only [List.getElem_toArray, List.getElem_cons_succ, List.getElem_cons_zero]
     go_simp
     (try with_reducible rfl)
    change Until _ _ _ _ _ _ _ _ (Act.put _ (some 94) _) _; simp only [Act.put, List.setIfInBounds_toArray, List.set_cons_zero, List.set_cons_succ]; refine Until.take (i := 14) (oi := _) (v := ?u15) rfl (by kernel_rfl) (by kernel_rfl) (by kernel_rfl) (by kernel_rfl) (by kernel_rfl) (fun _ _ _ h => h) (Or.inl ⟨by rfl, ?agE⟩) hHeld ?_
    case agE =>
     intro w' hSw
     (try dsimp only at hSw)
     simp only [List.getElem_toArray, List.getElem_cons_succ, List.getElem_cons_zero]
     go_simp
     (try with_reducible rfl)
    change Until _ _ _ _ _ _ _ _ (Act.put _ (some 95) _) _; simp only [Act.put, List.setIfInBounds_toArray, List.set_cons_zero, List.set_cons_succ]; refine Until.take (i := 15) (oi := _) (v := ?u16) rfl (by kernel_rfl) (by kernel_rfl) (by kernel_rfl) (by kernel_rfl) (by kernel_rfl) (fun _ _ _ h => h) (Or.inl ⟨by rfl, ?agD⟩) hHeld ?_
    case agD =>
     intro w' hSw
     (try dsimp only at hSw)
     simp only [List.getElem_toArray, List.getElem_cons_succ, List.getElem_cons_zero]
     go_simp
     (try with_reducible rfl)
    change Until _ _ _ _ _ _ _ _ (Act.put _ (some 96) _) _; simp only [Act.put, List.setIfInBounds_toArray, List.set_cons_zero, List.set_cons_succ]; refine Until.take (i := 16) (oi := _) (v := ?u17) rfl (by kernel_rfl) (by kernel_rfl) (by kernel_rfl) (by kernel_rfl) (by kernel_rfl) (fun _ _ _ h => h) (Or.inl ⟨by rfl, ?agC⟩) hHeld ?_
    case agC =>
     intro w' hSw
     (try dsimp only at hSw)
     simp only [List.getElem_toArray, List.getElem_cons_succ, List.getElem_cons_zero]
     go_simp
     (try with_reducible rfl)
    change Until _ _ _ _ _ _ _ _ (Act.put _ (some 97) _) _; simp only [Act.put, List.setIfInBounds_toArray, List.set_cons_zero, List.set_cons_succ]; refine Until.take (i := 17) (oi := _) (v := ?u18) rfl (by kernel_rfl) (by kernel_rfl) (by kernel_rfl) (by kernel_rfl) (by kernel_rfl) (fun _ _ _ h => h) (Or.inl ⟨by rfl, ?agB⟩) hHeld ?_
    case agB =>
     intro w' hSw
     (try dsimp only at hSw)
     simp only [List.getElem_toArray, List.getElem_cons_succ, List.getElem_cons_zero]
     go_simp
     (try with_reducible rfl)
    change Until _ _ _ _ _ _ _ _ (Act.put _ (some 98) _) _; simp only [Act.put, List.setIfInBounds_toArray, List.set_cons_zero, List.set_cons_succ]; refine Until.take (i := 18) (oi := _) (v := ?u19) rfl (by kernel_rfl) (by kernel_rfl) (by kernel_rfl) (by kernel_rfl) (by kernel_rfl) (fun _ _ _ h => h) (Or.inl ⟨by rfl, ?agA⟩) hHeld ?_
    case agA =>
     intro w' hSw
     (try dsimp only at hSw)
     simp only [List.getElem_toArray, List.getElem_cons_succ, List.getElem_cons_zero]
     go_simp
     (try with_reducible rfl)
    change Until _ _ _ _ _ _ _ _ (Act.put _ (some 99) _) _; simp only [Act.put, List.setIfInBounds_toArray, List.set_cons_zero, List.set_cons_succ]; refine Until.take (i := 19) (oi := _) (v := ?u20) rfl (by kernel_rfl) (by kernel_rfl) (by kernel_rfl) (by kernel_rfl) (by kernel_rfl) (fun _ _ _ h => h) (Or.inl ⟨by rfl, ?agz⟩) hHeld ?_
    case agz =>
     intro w' hSw
     (try dsimp only at hSw)
     simp only [List.getElem_toArray, List.getElem_cons_succ, List.getElem_cons_zero]
     go_simp
     (try with_reducible rfl)
    change Until _ _ _ _ _ _ _ _ (Act.put _ (some 100) _) _; simp only [Act.put, List.setIfInBounds_toArray, List.set_cons_zero, List.set_cons_succ]; refine Until.take (i := 20) (oi := _) (v := ?u21) rfl (by kernel_rfl) (by kernel_rfl) (by kernel_rfl) (by kernel_rfl) (by kernel_rfl) (fun _ _ _ h => h) (Or.inl ⟨by rfl, ?hu21⟩) hHeld ?_
    case hu21 =>
     intro w' hSw
     (try dsimp only at hSw)
     simp only [List.getElem_toArray, List.getElem_cons_succ, List.getElem_cons_zero]
     go_simp
     (try with_reducible rfl)
    change Until _ _ _ _ _ _ _ _ (Act.put _ (some 101) _) _; simp only [Act.put, List.setIfInBounds_toArray, List.set_cons_zero, List.set_cons_succ]; refine Until.one (i := 21) (o := _) (by kernel_rfl) rfl (fun K hK => ?_)
    go_simp
    refine (HPk.out _).mono ?_
    rintro r wn ⟨rfl, hb⟩; have M' := Lib.hid (M.out.below hb); have KZ := Lib.hid (TU.out.below hb); have Qd := Lib.hid (OX.out.below hb); have Qc := Lib.hid (RP.out.below hb); clear hb M TU OX RP; have M := M'; have TU := KZ; have OX := Qd; have RP := Qc; clear M' KZ Qd Qc
    go_wp2_with fail
    clear hHeld; have hHeld := K7.out _ _ _ M.out.row TU.out.row OX.out; refine hK.out _ _ (fun _ => hHeld) ?_
    clear hK K
    try simp only [Act.put, List.setIfInBounds_toArray, List.set_cons_zero, List.set_cons_succ]
    refine Until.take (i := 22) (oi := _) (v := ?u22) rfl (by kernel_rfl) (by kernel_rfl) (by kernel_rfl) (by kernel_rfl) (by kernel_rfl) (fun _ _ _ h => h) (Or.inl ⟨by rfl, ?agy⟩) hHeld ?_
    case agy =>
     intro w' hSw
     (try dsimp only at hSw)
     simp only [List.getElem_toArray, List.getElem_cons_succ, List.getElem_cons_zero]
     go_simp
     (try with_reducible rfl)
    change Until _ _ _ _ _ _ _ _ (Act.put _ (some 103) _) _; simp only [Act.put, List.setIfInBounds_toArray, List.set_cons_zero, List.set_cons_succ]; refine Until.take (i := 23) (oi := _) (v := ?u23) rfl (by kernel_rfl) (by kernel_rfl) (by kernel_rfl) (by kernel_rfl) (by kernel_rfl) (fun _ _ _ h => h) (Or.inl ⟨by rfl, ?agx⟩) hHeld ?_
    case agx =>
     intro w' hSw
     (try dsimp only at hSw)
     simp only [List.getElem_toArray, List.getElem_cons_succ, List.getElem_cons_zero]
     go_simp
     (try with_reducible rfl)
    change Until _ _ _ _ _ _ _ _ (Act.put _ (some 104) _) _; simp only [Act.put, List.setIfInBounds_toArray, List.set_cons_zero, List.set_cons_succ]; refine Until.one (i := 24) (o := _) (by kernel_rfl) rfl (fun K hK => ?_)
    go_simp
    refine (nH g c _ s _ _ _ _ _ _ M.out.row).mono ?_
    rintro r wn ⟨rfl, hw⟩; have M' := Lib.hid (M.out.work hw); have KZ := Lib.hid (TU.out.work M.out.lt hw.gr); have Qd := Lib.hid (PR.Own.grown OX.out hw.gr (fun q e => by injection e with e; have := GX.out; omega)); have Qc := Lib.hid (RP.out.gr hw.gr); clear hw M TU OX RP; have M := M'; have TU := KZ; have OX := Qd; have RP := Qc; clear M' KZ Qd Qc
    go_wp2_with fail
    clear hHeld; have hHeld := K7.out _ _ _ M.out.row TU.out.row OX.out; refine hK.out _ _ (fun _ => hHeld) ?_
    clear hK K
    try simp only [Act.put, List.setIfInBounds_toArray, List.set_cons_zero, List.set_cons_succ]
    refine Until.one (i := 25) (o := _) (by kernel_rfl) rfl (fun K hK => ?_)
    go_simp
    refine (HAk.out _).mono ?_
    rintro r wn ⟨rfl, hb⟩; have M' := Lib.hid (M.out.below hb); have KZ := Lib.hid (TU.out.below hb); have Qd := Lib.hid (OX.out.below hb); have Qc := Lib.hid (RP.out.below hb); clear hb M TU OX RP; have M := M'; have TU := KZ; have OX := Qd; have RP := Qc; clear M' KZ Qd Qc
    go_wp2_with fail
    clear hHeld; have hHeld := K7.out _ _ _ M.out.row TU.out.row OX.out; refine hK.out _ _ (fun _ => hHeld) ?_
    clear hK K
    try simp only [Act.put, List.setIfInBounds_toArray, List.set_cons_zero, List.set_cons_succ]
    refine Until.take (i := 26) (oi := _) (v := ?u24) rfl (by kernel_rfl) (by kernel_rfl) (by kernel_rfl) (by kernel_rfl) (by kernel_rfl) (fun _ _ _ h => h) (Or.inl ⟨by rfl, ?YT⟩) hHeld ?_
    case YT =>
     intro w' hSw
     (try dsimp only at hSw)
     simp only [List.getElem_toArray, List.getElem_cons_succ, List.getElem_cons_zero]
     go_simp
     (try with_reducible rfl)
    change Until _ _ _ _ _ _ _ _ (Act.put _ (some 107) _) _; simp only [Act.put, List.setIfInBounds_toArray, List.set_cons_zero, List.set_cons_succ]; refine Until.take (i := 27) (oi := _) (v := ?u25) rfl (by kernel_rfl) (by kernel_rfl) (by kernel_rfl) (by kernel_rfl) (by kernel_rfl) (fun _ _ _ h => h) (Or.inl ⟨by rfl, ?agw⟩) hHeld ?_
    case agw =>
     intro w' hSw
     (try dsimp only at hSw)
     simp only [List.getElem_toArray, List.getElem_cons_succ, List.getElem_cons_zero]
     go_simp
     (try with_reducible rfl)
    change Until _ _ _ _ _ _ _ _ (Act.put _ (some 108) _) _; simp only [Act.put, List.setIfInBounds_toArray, List.set_cons_zero, List.set_cons_succ]; refine Until.one (i := 28) (o := _) (by kernel_rfl) rfl (fun K hK => ?_)
    go_simp
    refine (nH g c _ s _ _ _ _ _ _ M.out.row).mono ?_
    rintro r wn ⟨rfl, hw⟩; have M' := Lib.hid (M.out.work hw); have KZ := Lib.hid (TU.out.work M.out.lt hw.gr); have Qd := Lib.hid (PR.Own.grown OX.out hw.gr (fun q e => by injection e with e; have := GX.out; omega)); have Qc := Lib.hid (RP.out.gr hw.gr); clear hw M TU OX RP; have M := M'; have TU := KZ; have OX := Qd; have RP := Qc; clear M' KZ Qd Qc
    go_wp2_with fail
    clear hHeld; have hHeld := K7.out _ _ _ M.out.row TU.out.row OX.out; refine hK.out _ _ (fun _ => hHeld) ?_
    clear hK K
    try simp only [Act.put, List.setIfInBounds_toArray, List.set_cons_zero, List.set_cons_succ]
    refine Until.take (i := 29) (oi := _) (v := ?u26) rfl (by kernel_rfl) (by kernel_rfl) (by kernel_rfl) (by kernel_rfl) (by kernel_rfl) (fun _ _ _ h => h) (Or.inl ⟨by rfl, ?agv⟩) hHeld ?_
    case agv =>
     intro w' hSw
     (try dsimp only at hSw)
     simp only [List.getElem_toArray, List.getElem_cons_succ, List.getElem_cons_zero]
     go_simp
     (try with_reducible rfl)
    change Until _ _ _ _ _ _ _ _ (Act.put _ (some 110) _) _; simp only [Act.put, List.setIfInBounds_toArray, List.set_cons_zero, List.set_cons_succ]; have hfz : wn.frozen? ⟨bx, 1, none⟩ = false := World.ownsRow.frozenAt OX.out.row 1; refine Until.one (i := 30) (o := _) (by kernel_rfl) rfl (fun K hK => ?_)
    go_simp
    refine hK.out _ _ (fun h => Bool.noConfusion (show true = false from h)) ?_
    clear hK K hHeld
    try simp only [Act.put, List.setIfInBounds_toArray, List.set_cons_zero, List.set_cons_succ]
    refine Until.done (by kernel_rfl) ?_ _
    refine NoPanic.normal ?_
    go_wp2_with fail
    go_meet
    refine ⟨Lib.hid (M.out.set' (p := ⟨bx, 1, none⟩) (by have := GX.out; simp; omega) _), Lib.hid ⟨TU.out.le, TU.out.row.far (p := ⟨bx, 1, none⟩) (by have := NU.out; simp; omega) _⟩, Lib.hid ⟨⟨?_, ?_⟩, RP.out.set NP.out _⟩⟩
    · have := Rd.put (PR.Own.rd OX.out).1 (j := 1) (by rw [HX.out k hlt]; decide) (y k)
      simpa using this
    · exact fun ad e => .inr (by injection e with e; subst e; have := GX.out; simp; omega)
   case rest =>
    clear M TU OX RP NP NU K7; obtain ⟨M, TU, RR⟩ := hcut
    go_wp2_with fail
    refine (m_ g c _ s _ _ _ _ _ M.out.row).mono ?_
    rintro r wn ⟨rfl, hw⟩; have M' := Lib.hid (M.out.work hw); have KZ := Lib.hid (TU.out.work M.out.lt hw.gr); have RR' := Lib.hid (And.intro (RR.out.1.gr hw.gr) (RR.out.2.gr hw.gr)); clear hw M TU RR; have M := M'; have TU := KZ; have RR := RR'; clear M' KZ RR'; have A2 := Lib.hid (A.out.to M.out); clear A
    obtain ⟨q0, q1, q2, q3, q4, q5, h0, h1, h2, h3, h4, h5⟩ : ∃ q0 q1 q2 q3 q4 q5, wn.cell? ⟨g, 10 + k * 6, none⟩ = some q0 ∧ wn.cell? ⟨g, 10 + k * 6 + 1, none⟩ = some q1 ∧ wn.cell? ⟨g, 10 + k * 6 + 2, none⟩ = some q2 ∧ wn.cell? ⟨g, 10 + k * 6 + 3, none⟩ = some q3 ∧ wn.cell? ⟨g, 10 + k * 6 + 4, none⟩ = some q4 ∧ wn.cell? ⟨g, 10 + k * 6 + 5, none⟩ = some q5 := by
     obtain rfl | rfl | rfl : k = 0 ∨ k = 1 ∨ k = 2 := by omega
     all_goals exact ⟨_, _, _, _, _, _, M.out.row.cell _, M.out.row.cell _, M.out.row.cell _, M.out.row.cell _, M.out.row.cell _, M.out.row.cell _⟩
    have hfw := M.out.row.free; have hz := M.out.row.lt; have NT : Hid (tu ≠ g) := Lib.hid (by have h1 := TU.out.le; have h2 := GX.out; omega); have K9 : Hid (∀ w', Row w' tu 31 #[.int .i64 3, .int .i64 1, .slice (some ⟨bx, 0, none⟩) 3 dx, .int .i64 3, .int .i64 3, .slice Ap (P k).length dp] → (∀ o, w'.cell? ⟨tu, o, none⟩ = #[.int .i64 3, .int .i64 1, .slice (some ⟨bx, 0, none⟩) 3 dx, .int .i64 3, .int .i64 3, .slice Ap (P k).length dp][o]?)) := Lib.hid (fun w' U => U.cell)
    go_upto_region 9 with fail
    have k0 : (0 : Int) ≤ (k : Int) := by omega
    have k3 : (k : Int) < 3 := by omega
    go_region_held3 (fun w' => (∀ o, w'.cell? ⟨tu, o, none⟩ = #[.int .i64 3, .int .i64 1, .slice (some ⟨bx, 0, none⟩) 3 dx, .int .i64 3, .int .i64 3, .slice Ap (P k).length dp][o]?))
     (first | with_reducible exact K9.out _ TU.out.row | with_reducible exact K9.out _ TU.out.row.drew | with_reducible exact K9.out _ (Row.drew (Row.abd TU.out.row NT.out _ _ _ _ _ _)))
     (fail)
    have A3 := Lib.hid ((A2.out.ax k hlt ⟨some ⟨bx, 0, none⟩, dx, (X0 k).set 1 (y k), Ap, dp, P k⟩ 3 (by simpa using HX.out k hlt) ⟨RR.out.1.weak, by simpa using CX.out.1, RR.out.2.weak, CX.out.2⟩).drew); have NWk : Hid (Nw g (⟨some ⟨bx, 0, none⟩, dx, (X0 k).set 1 (y k), Ap, dp, P k⟩ : Tr)) := Lib.hid ⟨RR.out.1.beyond, RR.out.2.beyond⟩
    have T3 : Hid ((∀ j, j < k + 1 → ((fun j => if j = k then (⟨some ⟨bx, 0, none⟩, dx, (X0 k).set 1 (y k), Ap, dp, P k⟩ : Tr) else T j) j).x = (X0 j).set 1 (y j) ∧ ((fun j => if j = k then (⟨some ⟨bx, 0, none⟩, dx, (X0 k).set 1 (y k), Ap, dp, P k⟩ : Tr) else T j) j).p = P j ∧ Nw g ((fun j => if j = k then (⟨some ⟨bx, 0, none⟩, dx, (X0 k).set 1 (y k), Ap, dp, P k⟩ : Tr) else T j) j)) ∧ (∀ j, k + 1 ≤ j → (fun j => if j = k then (⟨some ⟨bx, 0, none⟩, dx, (X0 k).set 1 (y k), Ap, dp, P k⟩ : Tr) else T j) j = e.ax j)) := Lib.hid ⟨fun j hj => by
     by_cases e : j = k
     · subst e; exact ⟨by simp, by simp, by simpa using NWk.out⟩
     · simp only [if_neg e]; exact TT.out.1 j (by omega), fun j hj => by
     simp only [if_neg (show j ≠ k by omega)]; exact TT.out.2 j (by omega)⟩
    clear NWk A2 RR CX h0 h1 h2 h3 h4 h5 hfw hz NT K9 M TU TT; go_wp2
    go_roundw
    case rel => exact ⟨k + 1, _, by omega, by go_num, T3, A3⟩
    case measure => simp [intOf]; omega
end Go.Proofs.YtcfobekkchhbbaaGreat.EE

namespace Go.Proofs.YtcfobekkchhbbaaGreat.EE
open Go.RowKit Go.Proofs.YtcfobekkchhbbaaGreat.KK Go.Proofs.af.aU Go.Proofs.af.a_ Go.Proofs.af.bf
set_option linter.unusedVariables false
set_option linter.unusedSimpArgs false
theorem Rg.vH {o : Prop} {w : World} {g : Nat} {A : Option Addr} {l : List Int} (h : Rg o g w A l) {k : Nat} (ne : ∀ ad, A = some ad → ad.block ≠ k) (a b c d e f : Value) : Rg o g (g_ w k a b c d e f) A l :=
 ⟨Rd.gr h.rd (dJ (dJ (dJ (BC w k a b c) _ _) _ _) _ _) ne, h.nr⟩
theorem H7 (n : Nat) (A1 A2 A3 : Option Addr) (c1 c2 c3 : Nat) (lx lp lh : List Int) (z r gate : Int) (X P : List Int) (tk fl : Bool) (w : World) (h1 : 1 ≤ n) (h8 : n ≤ 8) (hx : lx.length = n * 1) (hp : lp.length = n * n) (hh : lh.length = 1 * n)
 (rx : Rd w A1 lx) (cx : lx.length ≤ c1) (rp : Rd w A2 lp) (cp : lp.length ≤ c2) (rh : Rd w A3 lh) (ch : lh.length ≤ c3) (hr : 0 < r) (H : PR.Upd n lx lp lh z r gate X P tk fl) :
 Calls Tryz.prog 156 #[.agg #[I n, I 1, .slice A1 lx.length c1, I n, I n, .slice A2 lp.length c2], .agg #[I 1, I n, .slice A3 lh.length c3], I z, I r, I gate] w fun e w' => ∃ Ax dx Ap dp, e = .returned (.tuple #[.agg #[I n, I 1, .slice Ax X.length dx, I n, I n, .slice Ap P.length dp], .bool tk, .bool fl, I 0]) ∧ Rd w' Ax X ∧ X.length ≤ dx ∧ Rd w' Ap P ∧ P.length ≤ dp ∧
  (∀ b, b < w.heap.size → (∀ ad, A1 = some ad → ad.block ≠ b) → (∀ ad, A2 = some ad → ad.block ≠ b) → (∀ ad, Ax = some ad → ad.block ≠ b) ∧ (∀ ad, Ap = some ad → ad.block ≠ b)) ∧ Below w.heap.size w w' := by
 have hm := PR.Tv n lx lp lh r hr; have hi := PR.Np n lx lp lh z r h8 hx hp hh
 unfold PR.Upd at H
 split at H
 · rename_i hc
   obtain ⟨rfl, rfl, rfl, rfl⟩ := H
   have key : Calls Tryz.prog 156 #[.agg #[I n, I 1, .slice A1 X.length c1, I n, I n, .slice A2 P.length c2], .agg #[I 1, I n, .slice A3 lh.length c3], I z, I r, I gate] w fun e w' => e = .returned (.tuple #[.agg #[I n, I 1, .slice A1 X.length c1, I n, I n, .slice A2 P.length c2], .bool false, .bool (PR.iO n X P lh z r || (kE (PR.iY n X lh z) (PR.iY n X lh z)).2 || (kE gate (PR.iS n P lh r)).2), I 0]) ∧ Below w.heap.size w w' := by
    by_cases h4 : (kE (PR.iY n X lh z) (PR.iY n X lh z)).1 > (kE gate (PR.iS n P lh r)).1
    · exact PR.Vl n A1 A2 A3 c1 c2 c3 X P lh z r gate _ _ _ _ _ _ _ w h1 h8 hx hp hh rx cx rp cp rh ch hm hi (Prod.eta _).symm (Prod.eta _).symm h4
    · exact PR.Vm n A1 A2 A3 c1 c2 c3 X P lh z r gate _ _ _ _ _ _ _ w h1 h8 hx hp hh rx cx rp cp rh ch hm hi (Prod.eta _).symm (Prod.eta _).symm h4 (hc.resolve_left h4)
   refine key.mono ?_
   rintro e w' ⟨rfl, hb⟩; exact ⟨_, _, _, _, rfl, rx.below hb, cx, rp.below hb, cp, fun b _ h h' => ⟨h, h'⟩, hb⟩
 · rename_i hc
   obtain ⟨rfl, rfl, rfl, rfl⟩ := H; refine (PR.Qq n A1 A2 A3 c1 c2 c3 lx lp lh z r gate _ _ _ _ _ _ _ w h1 h8 hx hp hh rx cx rp cp rh ch hm hi (Prod.eta _).symm (Prod.eta _).symm (fun h => hc (.inl h)) (fun h => hc (.inr h))).mono ?_
   rintro e w' ⟨Ax, dx, Ap, dp, rfl, ox, op, _, hb⟩; exact ⟨_, _, _, _, rfl, (PR.Own.rd ox).1, (PR.Own.rd ox).2, (PR.Own.rd op).1, (PR.Own.rd op).2, fun b hb _ _ => ⟨(Rg.own (o := True) ox hb).ne, (Rg.own (o := True) op hb).ne⟩, hb⟩
def Es.xY (e : Es) (k : Nat) (t : Tr) : Es := { e with t0 := if k = 0 then t else e.t0, t1 := if k = 1 then t else e.t1, t2 := if k = 2 then t else e.t2 }
def Es.off (e : Es) : Nat → Int
 | 0 => e.f0
 | 1 => e.f1
 | 2 => e.f2
 | _ => e.f3
def Es.vN (e : Es) (k : Nat) (n : Int) : Es := { e with f0 := if k = 0 then n else e.f0, f1 := if k = 1 then n else e.f1, f2 := if k = 2 then n else e.f2, f3 := if k = 3 then n else e.f3 }
theorem PX {w : World} {g : Nat} {c : Cf} {e : Es} {s : Sm} {a0 a1 a2 : Int} (R : Row w g 111 (wk c e s a0 a1 a2)) {i : Nat} (hi : i < 3) (t : Tr) (ht : e.ax i = t) :
 w.cell? ⟨g, 10 + i * 6, none⟩ = some (I 3) ∧ w.cell? ⟨g, 10 + i * 6 + 1, none⟩ = some (I 1) ∧ w.cell? ⟨g, 10 + i * 6 + 2, none⟩ = some (.slice t.A t.x.length t.c) ∧ w.cell? ⟨g, 10 + i * 6 + 3, none⟩ = some (I 3) ∧ w.cell? ⟨g, 10 + i * 6 + 4, none⟩ = some (I 3) ∧ w.cell? ⟨g, 10 + i * 6 + 5, none⟩ = some (.slice t.B t.p.length t.d) := by
 subst ht
 obtain rfl | rfl | rfl : i = 0 ∨ i = 1 ∨ i = 2 := by omega
 all_goals exact ⟨R.cell _, R.cell _, R.cell _, R.cell _, R.cell _, R.cell _⟩
theorem jP.ax {w : World} {g : Nat} {c : Cf} {e : Es} {s : Sm} {a0 a1 a2 : Int} (R : Row w g 111 (wk c e s a0 a1 a2)) {k : Nat} (hk : k < 3) (t : Tr) (n m : Nat) (hn : t.x.length = n) (hm : t.p.length = m) :
 jP w g c (e.xY k t) s a0 a1 a2 (KW w g k (.int .i64 3) (.int .i64 1) (.slice t.A n t.c) (.int .i64 3) (.int .i64 3) (.slice t.B m t.d)) := by
 subst hn hm; refine ⟨?_, Ee w g k _ _ _ _ _ _⟩
 have R := (((((R.set (10 + k * 6) (.int .i64 3)).set (10 + k * 6 + 1) (.int .i64 1)).set (10 + k * 6 + 2) (.slice t.A t.x.length t.c)).set (10 + k * 6 + 3) (.int .i64 3)).set (10 + k * 6 + 4) (.int .i64 3)).set (10 + k * 6 + 5) (.slice t.B t.p.length t.d)
 obtain rfl | rfl | rfl : k = 0 ∨ k = 1 ∨ k = 2 := by omega
 all_goals simpa [Es.xY] using R
theorem jP.off {w : World} {g : Nat} {c : Cf} {e : Es} {s : Sm} {a0 a1 a2 : Int} (R : Row w g 111 (wk c e s a0 a1 a2)) {k : Nat} (hk : k < 4) (n : Int) : jP w g c (e.vN k n) s a0 a1 a2 (w.setCell ⟨g, 30 + k, none⟩ (I n)) := by
 refine ⟨?_, dJ (gG _ _) _ _⟩
 have R := R.set (30 + k) (I n)
 obtain rfl | rfl | rfl | rfl : k = 0 ∨ k = 1 ∨ k = 2 ∨ k = 3 := by omega
 all_goals simpa [Es.vN] using R
theorem OJ {w : World} {g : Nat} {c : Cf} {e : Es} {s : Sm} {a0 a1 a2 : Int} (R : Row w g 111 (wk c e s a0 a1 a2)) {k : Nat} (hk : k < 4) : w.cell? ⟨g, 30 + k, none⟩ = some (I (e.off k)) := by
 obtain rfl | rfl | rfl | rfl : k = 0 ∨ k = 1 ∨ k = 2 ∨ k = 3 := by omega
 all_goals exact R.cell _
theorem Zy (e : Es) (b : Bool) (i : Nat) : Es.ax { e with sat := b } i = e.ax i := by
 match i with
 | 0 => rfl
 | 1 => rfl
 | _ + 2 => rfl
def rY (tk : Bool) (n : Int) : Int := if tk = true then 0 else min (n + 1) 1000
theorem Ns {o : Prop} (g : Nat) (c : Cf) (e : Es) (s : Sm) (a0 a1 a2 : Int) (i k : Nat) (i' k' z r : Int) (X P : List Int) (tk fl : Bool) (w : World) (hi' : i' = i) (hk' : k' = k) (hi : i < 3) (hk : k < 4) (R : Row w g 111 (wk c e s a0 a1 a2))
 (hr : Rx o g w (e.ax i)) (hl : (e.ax i).x.length = 3 ∧ (e.ax i).p.length = 9) (h0 : 0 < r) (hU : PR.Upd 3 (e.ax i).x (e.ax i).p [16777216, 0, 0] (PQ.cl z) r c.gate X P tk fl) (hX : X.length = 3 ∧ P.length = 9) (hof : 0 ≤ e.off k ∧ e.off k ≤ 1000) :
 Calls Tryz.prog 95 #[.pointer (some ⟨g, 0, none⟩), I i', I k', I z, I r] w fun x w' => x = .returned (.tuple #[]) ∧ ∃ t : Tr, t.x = X ∧ t.p = P ∧ Rx o g w' t ∧
  jP w g c ({ (e.xY i t).vN k (rY tk (e.off k)) with sat := (e.sat || PQ.od z) || fl }) s a0 a1 a2 w' := by
 subst hi' hk'; have hg := R.lt; have HI := Lib.hid hi; have HK := Lib.hid hk; have HR := Lib.hid hr; have HL := Lib.hid hl; have H0 := Lib.hid h0; have HX := Lib.hid hX; have HO := Lib.hid hof
 have HUP : Hid (∀ (Ah : Option Addr) (w' : World), g < w'.heap.size → Rx o g w' (e.ax i) → Rd w' Ah [16777216, 0, 0] → Calls Tryz.prog 156 #[.agg (Tr.row (e.ax i)), .agg #[.int .i64 1, .int .i64 3, .slice Ah 3 3], I (PQ.cl z), I r, I c.gate] w' fun x w'' => ∃ Ax dx Ap dp, x = .returned (.tuple #[.agg #[I 3, I 1, .slice Ax 3 dx, I 3, I 3, .slice Ap 9 dp], .bool tk, .bool fl, I 0]) ∧ Rg o g w'' Ax X ∧ 3 ≤ dx ∧ Rg o g w'' Ap P ∧ 9 ≤ dp ∧ (∀ b, w.heap.size + 0 ≤ b → b < w'.heap.size → (∀ ad, Ax = some ad → ad.block ≠ b) ∧ (∀ ad, Ap = some ad → ad.block ≠ b)) ∧ Below w'.heap.size w' w'') := Lib.hid (fun Ah w' h1 h2 h3 => by
  have hh := H7 3 (e.ax i).A (e.ax i).B Ah (e.ax i).c (e.ax i).d 3 (e.ax i).x (e.ax i).p [16777216, 0, 0] (PQ.cl z) r c.gate X P tk fl w' (by decide) (by decide) HL.out.1 HL.out.2 rfl h2.x.rd h2.xc h2.p.rd h2.pd h3 (by simp) H0.out hU; rw [HX.out.1, HX.out.2] at hh; refine hh.mono ?_
  rintro x w'' ⟨Ax, dx, Ap, dp, rfl, rx, Y_, rp, hdp, nb, hb⟩; have n0 := aaI nb h1 h2.x.nr h2.p.nr; refine ⟨Ax, dx, Ap, dp, rfl, ⟨rx, n0.1⟩, Y_, ⟨rp, n0.2⟩, hdp, fun b hwb hb' => nb b hb' (fun ad e2 => ?_) (fun ad e2 => ?_), hb⟩
  · have := PR.Rd.blk HR.out.x.rd ad e2 (by rw [HL.out.1]; decide)
    omega
  · have := PR.Rd.blk HR.out.p.rd ad e2 (by rw [HL.out.2]; decide)
    omega)
 obtain ⟨t, ht⟩ : ∃ t, e.ax i = t := ⟨_, rfl⟩
 rw [ht] at HR HL HUP; have HT := Lib.hid ht; clear hU hi hk hr hl h0 hX hof ht; have M0 := Lib.hid (Sw.of R); clear R
 go_enter Tryz.func95, Tryz.ntmps95
 go_upto_region 1 with fail
 have M1 := Lib.hid ((M0.out.alloc (.cells #[.int .i64 16777216, .int .i64 0, .int .i64 0] 22)).alloc (.cells #[.int .i64 1, .int .i64 3, .slice (some ⟨w.heap.size, 0, none⟩) 3 3] 29)); have TH := Lib.hid (Tb.mJ 29 #[.int .i64 1, .int .i64 3, .slice (some ⟨w.heap.size, 0, none⟩) 3 3] (M0.out.alloc (.cells #[.int .i64 16777216, .int .i64 0, .int .i64 0] 22)))
 have RH : Hid (Rg True g ((w.alloc (.cells #[.int .i64 16777216, .int .i64 0, .int .i64 0] 22)).alloc (.cells #[.int .i64 1, .int .i64 3, .slice (some ⟨w.heap.size, 0, none⟩) 3 3] 29)) (some ⟨w.heap.size, 0, none⟩) [16777216, 0, 0]) :=
  Lib.hid (Rg.alloc ⟨Rd.new w 22 [16777216, 0, 0] (by simp), fun ad e => .inr (by injection e with e; subst e; simp; omega)⟩ _)
 simp only [World.size_alloc] at TH; generalize ((w.alloc (.cells #[.int .i64 16777216, .int .i64 0, .int .i64 0] 22)).alloc (.cells #[.int .i64 1, .int .i64 3, .slice (some ⟨w.heap.size, 0, none⟩) 3 3] 29)) = wd at M1 TH RH ⊢; generalize w.heap.size + 1 = hb at TH ⊢; generalize (some (⟨w.heap.size, 0, none⟩ : Addr)) = Ah at TH RH; have zTH := TH.out.row.lt; have M := Lib.hid (Sw.of M1.out.row)
 have i0 : (0 : Int) ≤ (i : Int) := by omega
 have i3 : (i : Int) < 3 := by have := HI.out; omega
 have K1 : Hid (∀ w' e', Row w' g 111 (wk c { e with sat := e' } s a0 a1 a2) → Row w' hb 29 #[.int .i64 1, .int .i64 3, .slice Ah 3 3] → ((w'.cell? ⟨g, 10 + i * 6, none⟩ = some (I 3) ∧ w'.cell? ⟨g, 10 + i * 6 + 1, none⟩ = some (I 1) ∧ w'.cell? ⟨g, 10 + i * 6 + 2, none⟩ = some (.slice t.A t.x.length t.c) ∧ w'.cell? ⟨g, 10 + i * 6 + 3, none⟩ = some (I 3) ∧ w'.cell? ⟨g, 10 + i * 6 + 4, none⟩ = some (I 3) ∧ w'.cell? ⟨g, 10 + i * 6 + 5, none⟩ = some (.slice t.B t.p.length t.d)) ∧ w'.cell? ⟨g, 5, none⟩ = some (I c.gate) ∧ (∀ o, w'.cell? ⟨hb, o, none⟩ = #[.int .i64 1, .int .i64 3, .slice Ah 3 3][o]?))) := Lib.hid (fun w' e' R U => ⟨PX R HI.out t ((Zy e e' i).trans HT.out), R.cell 5, U.cell⟩)
 go_cut [11, 12, 13] (fun v11 v12 v13 wc => ∃ (tb : Nat) (Ax Ap : Option Addr) (dx dp : Nat), v11 = .pointer (some ⟨tb, 0, none⟩) ∧ v12 = .bool tk ∧ v13 = .bool fl ∧ Hid (3 ≤ dx ∧ 9 ≤ dp ∧ Rg o g wc Ax X ∧ Rg o g wc Ap P ∧ Tb w 0 tb 31 #[I 3, I 1, .slice Ax 3 dx, I 3, I 3, .slice Ap 9 dp] wc) ∧ Hid (Sw w [] g (wk c { e with sat := e.sat || PQ.od z } s a0 a1 a2) wc))
 case first =>
  go_region_held3 (fun w' => ((w'.cell? ⟨g, 10 + i * 6, none⟩ = some (I 3) ∧ w'.cell? ⟨g, 10 + i * 6 + 1, none⟩ = some (I 1) ∧ w'.cell? ⟨g, 10 + i * 6 + 2, none⟩ = some (.slice t.A t.x.length t.c) ∧ w'.cell? ⟨g, 10 + i * 6 + 3, none⟩ = some (I 3) ∧ w'.cell? ⟨g, 10 + i * 6 + 4, none⟩ = some (I 3) ∧ w'.cell? ⟨g, 10 + i * 6 + 5, none⟩ = some (.slice t.B t.p.length t.d)) ∧ w'.cell? ⟨g, 5, none⟩ = some (I c.gate) ∧ (∀ o, w'.cell? ⟨hb, o, none⟩ = #[.int .i64 1, .int .i64 3, .slice Ah 3 3][o]?)))
   (first | with_reducible exact K1.out _ _ (M.out).row (TH.out).row | with_reducible exact K1.out _ _ (M.out.drew).row (TH.out.drew).row | with_reducible exact K1.out _ _ (M.out.alloc _).row (TH.out.alloc _).row | with_reducible exact K1.out _ _ (M.out.drew.alloc _).row (TH.out.drew.alloc _).row | with_reducible exact K1.out _ _ ((M.out.alloc _).drew).row ((TH.out.alloc _).drew).row | with_reducible exact K1.out _ _ (M.out.NJ TB.out.le _ _ _ _ _ _).row (TH.out.vH (DN zTH TB.out.le) _ _ _ _ _ _).row | with_reducible exact K1.out _ _ ((M.out.alloc _).NJ M.out.le' _ _ _ _ _ _).row ((TH.out.alloc _).vH (DN zTH M.out.le') _ _ _ _ _ _).row)
   (first
     | (go_at_call 156
        first
         | ((with_reducible refine (HUP.out _ _ M.out.row.lt (Rx.gr HR.out (dU M1.out.gr M.out.gr)) (RH.out.gr M.out.gr).rd).mono ?_)
            rintro r wn ⟨Ax, dx, Ap, dp, rfl, rx, Y_, rp, hdp, nb, hb⟩
            with_reducible have M' := Lib.hid (M.out.below hb)
            (try (have Ym := TB.out.row.lt; have GK := Lib.hid (Tb.below (TB.out) hb); clear TB kc kf zt; have TB := GK; clear GK; have kc := TB.out.row.cell; have kf := TB.out.row.free; have zt := TB.out.row.lt))
            have GI := Lib.hid (Tb.below (TH.out) hb); have RX := Lib.hid rx; have RP := Lib.hid rp; have NB := Lib.hid nb; have DX := Lib.hid (And.intro Y_ hdp); clear rx rp Y_ hdp nb; clear hb M TH; have M := M'; clear M'; have TH := GI
            clear GI)
         | ((with_reducible refine (HUP.out _ _ (M.out.alloc _).row.lt (Rx.gr HR.out (dU M1.out.gr (M.out.alloc _).gr)) (RH.out.gr (M.out.alloc _).gr).rd).mono ?_)
            rintro r wn ⟨Ax, dx, Ap, dp, rfl, rx, Y_, rp, hdp, nb, hb⟩
            with_reducible have M' := Lib.hid ((M.out.alloc _).below hb)
            have Ym := (Tb.mJ 31 #[I 0, I 0, .slice none 0 0, I 0, I 0, .slice none 0 0] M.out).row.lt; have TB := Lib.hid (Tb.below (Tb.mJ 31 #[I 0, I 0, .slice none 0 0, I 0, I 0, .slice none 0 0] M.out) hb); have kc := TB.out.row.cell; have kf := TB.out.row.free; have zt := TB.out.row.lt; have GI := Lib.hid (Tb.below ((TH.out.alloc _)) hb); have RX := Lib.hid rx; have RP := Lib.hid rp; have NB := Lib.hid nb; have DX := Lib.hid (And.intro Y_ hdp); clear rx rp Y_ hdp nb; clear hb M TH; have M := M'; clear M'; have TH := GI
            clear GI))
     | (go_at_call 90
        first
         | ((with_reducible refine (nH g c _ s _ _ _ _ _ _ M.out.row).mono ?_)
            rintro r wn ⟨rfl, hw⟩
            with_reducible have M' := Lib.hid (M.out.work hw)
            (try (have Ym := TB.out.row.lt; have GK := Lib.hid (Tb.work (TB.out) M.out.lt hw.gr); clear TB kc kf zt; have TB := GK; clear GK; have kc := TB.out.row.cell; have kf := TB.out.row.free; have zt := TB.out.row.lt))
            have GI := Lib.hid (Tb.work (TH.out) hg hw.gr); clear hw M TH; have M := M'; clear M'; have TH := GI
            clear GI)
         | ((with_reducible refine (nH g c _ s _ _ _ _ _ _ (M.out.alloc _).row).mono ?_)
            rintro r wn ⟨rfl, hw⟩
            with_reducible have M' := Lib.hid ((M.out.alloc _).work hw)
            have Ym := (Tb.mJ 31 #[I 0, I 0, .slice none 0 0, I 0, I 0, .slice none 0 0] M.out).row.lt; have TB := Lib.hid (Tb.work (Tb.mJ 31 #[I 0, I 0, .slice none 0 0, I 0, I 0, .slice none 0 0] M.out) M.out.lt hw.gr); have kc := TB.out.row.cell; have kf := TB.out.row.free; have zt := TB.out.row.lt; have GI := Lib.hid (Tb.work ((TH.out.alloc _)) hg hw.gr); clear hw M TH; have M := M'; clear M'; have TH := GI
            clear GI))
     | (go_at_call 137
        first
         | ((with_reducible refine (sG _ _).mono ?_)
            rintro r wn ⟨rfl, hb⟩
            with_reducible have M' := Lib.hid (M.out.drew.below hb)
            have GI := Lib.hid (Tb.below (TH.out.drew) hb); clear hb M TH; have M := M'; clear M'; have TH := GI
            clear GI)
         | ((with_reducible refine (sG _ _).mono ?_)
            rintro r wn ⟨rfl, hb⟩
            with_reducible have M' := Lib.hid ((M.out.drew.alloc _).below hb)
            have Ym := (Tb.mJ 31 #[I 0, I 0, .slice none 0 0, I 0, I 0, .slice none 0 0] M.out.drew).row.lt; have TB := Lib.hid (Tb.below (Tb.mJ 31 #[I 0, I 0, .slice none 0 0, I 0, I 0, .slice none 0 0] M.out.drew) hb); have kc := TB.out.row.cell; have kf := TB.out.row.free; have zt := TB.out.row.lt; have GI := Lib.hid (Tb.below ((TH.out.drew.alloc _)) hb); clear hb M TH; have M := M'; clear M'; have TH := GI
            clear GI)
         | ((with_reducible refine (sG _ _).mono ?_)
            rintro r wn ⟨rfl, hb⟩
            with_reducible have M' := Lib.hid ((M.out.alloc _).drew.below hb)
            have Ym := (Tb.drew (Tb.mJ 31 #[I 0, I 0, .slice none 0 0, I 0, I 0, .slice none 0 0] M.out)).row.lt; have TB := Lib.hid (Tb.below (Tb.drew (Tb.mJ 31 #[I 0, I 0, .slice none 0 0, I 0, I 0, .slice none 0 0] M.out)) hb); have kc := TB.out.row.cell; have kf := TB.out.row.free; have zt := TB.out.row.lt; have GI := Lib.hid (Tb.below ((TH.out.alloc _).drew) hb); clear hb M TH; have M := M'; clear M'; have TH := GI
            clear GI)))
  all_goals (go_wp2_with fail; go_meet)
  all_goals
   first
    | with_reducible exact ⟨_, _, _, _, _, rfl, rfl, rfl, Lib.hid ⟨DX.out.1, DX.out.2, RX.out.vH (NB.out _ (Nat.le_trans M1.out.gr.size TB.out.le) Ym).1 _ _ _ _ _ _, RP.out.vH (NB.out _ (Nat.le_trans M1.out.gr.size TB.out.le) Ym).2 _ _ _ _ _ _, (TB.out.g_ _ _ _ _ _ _).up M1.out.gr.size⟩, Lib.hid (M1.out.up (M.out.NJ TB.out.le _ _ _ _ _ _))⟩
    | with_reducible exact ⟨_, _, _, _, _, rfl, rfl, rfl, Lib.hid ⟨DX.out.1, DX.out.2, RX.out.alloc _, RP.out.alloc _, (Tb.mJ 31 _ M.out).up M1.out.gr.size⟩, Lib.hid (M1.out.up (M.out.alloc _))⟩
 case rest =>
  clear M M1 TH RH zTH K1 HUP HR; obtain ⟨tb, Ax, Ap, dx, dp, rfl, rfl, rfl, F, M⟩ := hcut
  go_wp2_with fail
  refine (m_ g c _ s _ _ _ _ _ M.out.row).mono ?_
  rintro x wn ⟨rfl, hw⟩; have M' := Lib.hid (M.out.work hw); have TU := Lib.hid (F.out.2.2.2.2.work M.out.lt hw.gr); have RR := Lib.hid (And.intro (And.intro F.out.1 F.out.2.1) (And.intro (F.out.2.2.1.gr hw.gr) (F.out.2.2.2.1.gr hw.gr))); clear hw M F; have M := M'; clear M'; obtain ⟨h0, h1, h2, h3, h4, h5⟩ := PX M.out.row HI.out _ rfl; have hfw := M.out.row.free; have hz := M.out.row.lt; have NT : Hid (tb ≠ g) := Lib.hid (by have h1 := TU.out.le; omega); have K9 : Hid (∀ w', Row w' tb 31 #[I 3, I 1, .slice Ax 3 dx, I 3, I 3, .slice Ap 9 dp] → (∀ o, w'.cell? ⟨tb, o, none⟩ = #[I 3, I 1, .slice Ax 3 dx, I 3, I 3, .slice Ap 9 dp][o]?)) := Lib.hid (fun w' U => U.cell)
  go_upto_region 3 with fail
  have W3 : Hid (Sw w [] g (wk c { (e.xY i ⟨Ax, dx, X, Ap, dp, P⟩) with sat := (e.sat || PQ.od z) || fl } s a0 a1 a2) (KW wn g i (.int .i64 3) (.int .i64 1) (.slice Ax 3 dx) (.int .i64 3) (.int .i64 3) (.slice Ap 9 dp)).drew) := Lib.hid (M.out.work (jP.ax M.out.row HI.out ⟨Ax, dx, X, Ap, dp, P⟩ 3 9 HX.out.1 HX.out.2)).drew
  go_cut [] (fun wc => Hid (Rx o g wc ⟨Ax, dx, X, Ap, dp, P⟩) ∧ Hid (Sw w [] g (wk c { (e.xY i ⟨Ax, dx, X, Ap, dp, P⟩) with sat := (e.sat || PQ.od z) || fl } s a0 a1 a2) wc))
  case first =>
   go_region_held3 (fun w' => (∀ o, w'.cell? ⟨tb, o, none⟩ = #[I 3, I 1, .slice Ax 3 dx, I 3, I 3, .slice Ap 9 dp][o]?))
    (first | with_reducible exact K9.out _ TU.out.row | with_reducible exact K9.out _ TU.out.row.drew | with_reducible exact K9.out _ (Row.drew (Row.abd TU.out.row NT.out _ _ _ _ _ _)))
    (fail)
   go_wp2_with fail
   go_meet
   with_reducible exact ⟨Lib.hid (Rx.below (Rx.gr ⟨RR.out.2.1, by rw [HX.out.1]; exact RR.out.1.1, RR.out.2.2, by rw [HX.out.2]; exact RR.out.1.2⟩ (Ee _ _ _ _ _ _ _ _ _)) (Below.refl _ _).drew), W3⟩
  case rest =>
   clear W3 M K9 TU RR h0 h1 h2 h3 h4 h5 hfw hz NT; obtain ⟨RX, M⟩ := hcut; have hk0 : wc.drew.cell? ⟨g, 30 + k, none⟩ = some (I (e.off k)) := OJ M.out.row.drew HK.out; have hk1 : wc.cell? ⟨g, 30 + k, none⟩ = some (I (e.off k)) := OJ M.out.row HK.out; have hfw := M.out.row.free; have hz := M.out.row.lt
   have k0 : (0 : Int) ≤ (k : Int) := by omega
   have k4 : (k : Int) < 4 := by have := HK.out; omega
   cases tk
   · go_upto_region 6 with fail
     have W5 : Hid (jP wc g c { (e.xY i ⟨Ax, dx, X, Ap, dp, P⟩).vN k (rY false (e.off k)) with sat := (e.sat || PQ.od z) || fl } s a0 a1 a2 (wc.setCell ⟨g, 30 + k, none⟩ (I (min (e.off k + 1) 1000)))) := Lib.hid (jP.off M.out.row HK.out _); clear hk1
     go_region_law (first | (go_simp; go_at_call 96; refine (yB _ _ _ HO.out.1 (by have := HO.out.2; omega)).mono ?_; rintro x w9 ⟨rfl, rfl⟩))
     all_goals go_wp2
     all_goals go_end0
     all_goals exact ⟨rfl, ⟨Ax, dx, X, Ap, dp, P⟩, rfl, rfl, (RX.out.gr (jP.drew W5.out).gr), ⟨(jP.drew W5.out).row, dU M.out.gr (jP.drew W5.out).gr⟩⟩
   · have W5 : Hid (jP wc g c { (e.xY i ⟨Ax, dx, X, Ap, dp, P⟩).vN k (rY true (e.off k)) with sat := (e.sat || PQ.od z) || fl } s a0 a1 a2 (wc.setCell ⟨g, 30 + k, none⟩ (I 0))) := Lib.hid (jP.off M.out.row HK.out _)
     clear hk0; go_wp2
     go_end0
     exact ⟨rfl, ⟨Ax, dx, X, Ap, dp, P⟩, rfl, rfl, RX.out.gr W5.out.gr, ⟨W5.out.row, dU M.out.gr W5.out.gr⟩⟩
end Go.Proofs.YtcfobekkchhbbaaGreat.EE

namespace Go.Proofs.YtcfobekkchhbbaaGreat.EE
open Go.RowKit Go.Proofs.YtcfobekkchhbbaaGreat.KK Go.Proofs.af.aU Go.Proofs.af.a_ Go.Proofs.af.bf
set_option linter.unusedVariables false
set_option linter.unusedSimpArgs false
structure En where
 q0 : Int
 q1 : Int
 q2 : Int
 q3 : Int
 x0 : List Int
 p0 : List Int
 x1 : List Int
 p1 : List Int
 x2 : List Int
 p2 : List Int
 steps : Int
 fZ : Int
 f0 : Int
 f1 : Int
 f2 : Int
 f3 : Int
 sat : Bool
abbrev Es.nu (e : Es) : En := ⟨e.q0, e.q1, e.q2, e.q3, e.t0.x, e.t0.p, e.t1.x, e.t1.p, e.t2.x, e.t2.p, e.steps, e.fZ, e.f0, e.f1, e.f2, e.f3, e.sat⟩
def En.x (n : En) : Nat → List Int
 | 0 => n.x0
 | 1 => n.x1
 | _ => n.x2
def En.p (n : En) : Nat → List Int
 | 0 => n.p0
 | 1 => n.p1
 | _ => n.p2
def En.off (n : En) : Nat → Int
 | 0 => n.f0
 | 1 => n.f1
 | 2 => n.f2
 | _ => n.f3
def En.held (n : En) (i k : Nat) (X P : List Int) (tk fl : Bool) : En :=
 { n with x0 := if i = 0 then X else n.x0, p0 := if i = 0 then P else n.p0, x1 := if i = 1 then X else n.x1, p1 := if i = 1 then P else n.p1, x2 := if i = 2 then X else n.x2, p2 := if i = 2 then P else n.p2, f0 := if k = 0 then rY tk (n.off k) else n.f0, f1 := if k = 1 then rY tk (n.off k) else n.f1, f2 := if k = 2 then rY tk (n.off k) else n.f2, f3 := if k = 3 then rY tk (n.off k) else n.f3, sat := n.sat || fl }
theorem FD (e : Es) (i : Nat) : (e.ax i).x = e.nu.x i := by
 match i with
 | 0 => rfl
 | 1 => rfl
 | _ + 2 => rfl
theorem Il (e : Es) (i : Nat) : (e.ax i).p = e.nu.p i := by
 match i with
 | 0 => rfl
 | 1 => rfl
 | _ + 2 => rfl
theorem Tm (e : Es) (k : Nat) : e.off k = e.nu.off k := by
 match k with
 | 0 => rfl
 | 1 => rfl
 | 2 => rfl
 | _ + 3 => rfl
structure yG (n : En) (i k : Nat) (z r gate : Int) (X P : List Int) (tk fl : Bool) : Prop where
 up : PR.Upd 3 (n.x i) (n.p i) [16777216, 0, 0] (PQ.cl z) r gate X P tk fl
 lx : (n.x i).length = 3
 lp : (n.p i).length = 9
 lX : X.length = 3
 lP : P.length = 9
 o0 : 0 ≤ n.off k
 o1 : n.off k ≤ 1000
def Ok (o : Prop) (g : Nat) (w : World) (e : Es) : Prop := ∀ j, j < 3 → Rx o g w (e.ax j)
theorem Ok.below {o : Prop} {g : Nat} {w w' : World} {e : Es} (h : Ok o g w e) (hb : Below w.heap.size w w') : Ok o g w' e := fun j hj => (h j hj).below hb
theorem OT {o : Prop} (g : Nat) (c : Cf) (e : Es) (s : Sm) (a0 a1 a2 : Int) (i k : Nat) (i' k' z r : Int) (X P : List Int) (tk fl : Bool) (w : World) (hi' : i' = i) (hk' : k' = k) (hi : i < 3) (hk : k < 4) (R : Row w g 111 (wk c e s a0 a1 a2)) (hr : Ok o g w e) (h0 : 0 < r) (H : yG e.nu i k z r c.gate X P tk fl) :
 Calls Tryz.prog 95 #[.pointer (some ⟨g, 0, none⟩), I i', I k', I z, I r] w fun x w' => x = .returned (.tuple #[]) ∧ ∃ e' : Es, e'.nu = e.nu.held i k X P tk (PQ.od z || fl) ∧ Ok o g w' e' ∧ jP w g c e' s a0 a1 a2 w' := by
 refine (Ns g c e s a0 a1 a2 i k i' k' z r X P tk fl w hi' hk' hi hk R (hr i hi) ⟨by rw [FD]; exact H.lx, by rw [Il]; exact H.lp⟩ h0 (by rw [FD, Il]; exact H.up) ⟨H.lX, H.lP⟩ ⟨by rw [Tm]; exact H.o0, by rw [Tm]; exact H.o1⟩).mono ?_
 rintro x w' ⟨rfl, t, rfl, rfl, ht, hw⟩; refine ⟨rfl, _, ?_, ?_, hw⟩
 · obtain rfl | rfl | rfl : i = 0 ∨ i = 1 ∨ i = 2 := by omega
   all_goals
    obtain rfl | rfl | rfl | rfl : k = 0 ∨ k = 1 ∨ k = 2 ∨ k = 3 := by omega
    all_goals simp [En.held, Es.xY, Es.vN, Es.off, En.off, Bool.or_assoc]
 · intro j hj
   have e1 : ∀ b : Bool, Es.ax { (e.xY i t).vN k (rY tk (e.off k)) with sat := b } j = if i = j then t else e.ax j := fun b => by
    obtain rfl | rfl | rfl : i = 0 ∨ i = 1 ∨ i = 2 := by omega
    all_goals
     obtain rfl | rfl | rfl : j = 0 ∨ j = 1 ∨ j = 2 := by omega
     all_goals simp [Es.ax, Es.xY, Es.vN]
   rw [e1]
   split
   · exact ht
   · exact (hr j hj).gr hw.gr
def Sm.n (s : Sm) : Nat → Int
 | 0 => s.n0
 | 1 => s.n1
 | _ => s.n2
theorem Nz {o : Prop} (g : Nat) (c : Cf) (e : Es) (s : Sm) (a0 a1 a2 : Int) (m1 : En) (gk : Nat → En) (XB PB : List Int) (Xz XT : Bool) (XG PG : Nat → List Int) (Xy XR : Nat → Bool) (w : World) (R : Row w g 111 (wk c e s a0 a1 a2)) (hr : Ok o g w e) (hm : s.missing = false)
 (hB : s.hasB = true → 0 < c.kL ∧ yG e.nu 2 0 s.kL c.kL c.gate XB PB Xz XT ∧ m1 = e.nu.held 2 0 XB PB Xz (PQ.od s.kL || XT)) (hB' : s.hasB = false → m1 = e.nu) (g0 : gk 0 = m1)
 (hG : s.FI = true → 0 < c.pF ∧ ∀ k, k < 3 → yG (gk k) k (k + 1) (s.n k) c.pF c.gate (XG k) (PG k) (Xy k) (XR k) ∧ gk (k + 1) = (gk k).held k (k + 1) (XG k) (PG k) (Xy k) (PQ.od (s.n k) || XR k)) (hG' : s.FI = false → ∀ k, k < 3 → gk (k + 1) = gk k) :
 Calls Tryz.prog 49 #[.pointer (some ⟨g, 0, none⟩)] w fun x w' => x = .returned (.tuple #[]) ∧ ∃ e' : Es, e'.nu = gk 3 ∧ Ok o g w' e' ∧ jP w g c e' s a0 a1 a2 w' := by
 have hg := R.lt; have M : Hid (jP w g c e s a0 a1 a2 w) := Lib.hid ⟨R, gG _ _⟩; have O := Lib.hid hr; have HB := Lib.hid hB; have HB' := Lib.hid hB'; have HG := Lib.hid hG; have HG' := Lib.hid hG'; have G0 := Lib.hid g0; have hc := R.cell; clear R hr hB hB' hG hG' g0
 go_enter Tryz.func49, Tryz.ntmps49
 go_upto_if 13 with fail
 clear hm
 go_cut [] (fun wc => ∃ e1 : Es, Hid (e1.nu = m1) ∧ Hid (Ok o g wc e1) ∧ Hid (jP w g c e1 s a0 a1 a2 wc))
 case first =>
  cases hb : s.hasB
  · go_wp2_with fail
    go_meet
    exact ⟨e, Lib.hid (HB'.out hb).symm, O, M⟩
  · have BB := Lib.hid (HB.out hb)
    go_upto_region 2 with fail
    clear hc; have K2 : Hid (∀ w' e', Row w' g 111 (wk c e' s a0 a1 a2) → (w'.cell? ⟨g, 43, none⟩ = some (I s.kL) ∧ w'.cell? ⟨g, 3, none⟩ = some (I c.kL))) := Lib.hid (fun w' e' R => ⟨R.cell 43, R.cell 3⟩)
    go_region_held3 (fun w' => (w'.cell? ⟨g, 43, none⟩ = some (I s.kL) ∧ w'.cell? ⟨g, 3, none⟩ = some (I c.kL)))
     (first | with_reducible exact K2.out _ _ M.out.row | with_reducible exact K2.out _ _ M.out.row.drew | with_reducible exact K2.out _ _ W2.out.row)
     ((go_at_call 95
       (with_reducible refine (OT g c e s a0 a1 a2 2 0 2 0 s.kL c.kL XB PB Xz XT _ rfl rfl (by decide) (by decide) M.out.row.drew (O.out.below (Below.refl _ _).drew) BB.out.1 BB.out.2.1).mono ?_)
       rintro x wn ⟨rfl, e1, hn, ho, hw⟩; have W2 := Lib.hid (M.out.drew.step hw); have N2 := Lib.hid hn; have O2 := Lib.hid ho
       clear hw hn ho))
    all_goals go_wp2_with fail
    all_goals go_meet
    all_goals exact ⟨e1, Lib.hid (N2.out.trans BB.out.2.2.symm), O2, W2⟩
 case rest =>
  clear M O hc; obtain ⟨e1, N1, O1, M⟩ := hcut; have hc := M.out.row.cell
  go_wp2_with fail
  clear hc
  go_loopw [31] (fun i wr => ∃ (k : Nat) (e' : Es), k ≤ 3 ∧ i = .int .i64 k ∧ Hid (e'.nu = gk k) ∧ Hid (Ok o g wr e') ∧ Hid (jP w g c e' s a0 a1 a2 wr)) (fun i _ => 3 - (intOf i).toNat)
  case atStart => exact ⟨0, e1, by omega, rfl, Lib.hid (N1.out.trans G0.out.symm), O1, M⟩
  case round =>
   clear M N1 O1; obtain ⟨k, e2, hk, rfl, N2, O2, M⟩ := hrel
   by_cases hlt : k < 3
   case neg =>
    obtain rfl : k = 3 := by omega
    go_wp2
    go_end0
    exact ⟨rfl, e2, N2.out, O2.out, M.out⟩
   have ix : ∀ w', (Instr.index 53 (.agg #[I s.n0, I s.n1, I s.n2]) (.int .i64 k)).run Tryz.prog w' = .ok (I (s.n k)) w' := fun w' => by
    obtain rfl | rfl | rfl : k = 0 ∨ k = 1 ∨ k = 2 := by omega
    all_goals kernel_rfl
   have hd : decide ((k : Int) < 3) = true := decide_eq_true (by omega)
   have k0 : (0 : Int) ≤ (k : Int) := by omega
   have k3 : (k : Int) < 3 := by omega
   have hc := M.out.row.cell
   cases hb : s.FI
   · go_wp2
     go_roundw
     case rel => exact ⟨k + 1, e2, by omega, by go_num, Lib.hid (N2.out.trans (HG'.out hb k hlt).symm), O2, M⟩
     case measure => simp [intOf]; omega
   · have GG := Lib.hid (HG.out hb)
     have HE : Hid (yG e2.nu k (k + 1) (s.n k) c.pF c.gate (XG k) (PG k) (Xy k) (XR k)) := Lib.hid (by rw [N2.out]; exact (GG.out.2 k hlt).1); have hw1 : IntKind.i64.wrap ((k : Int) + 1) = (k : Int) + 1 := IntWalk.i64_in _ (by omega)
     go_wp2_with fail
     refine (OT g c e2 s a0 a1 a2 k (k + 1) _ _ _ _ _ _ _ _ _ rfl (by omega) hlt (by omega) M.out.row O2.out GG.out.1 HE.out).mono ?_
     rintro x wn ⟨rfl, e3, hn, ho, hw⟩; have W3 := Lib.hid (M.out.step hw); have N3 : Hid (e3.nu = gk (k + 1)) := Lib.hid (by rw [hn, N2.out]; exact (GG.out.2 k hlt).2.symm); have O3 := Lib.hid ho; clear hw hn ho M hc hw1; go_wp2
     go_roundw
     case rel => exact ⟨k + 1, e3, by omega, by go_num, N3, O3, W3⟩
     case measure => simp [intOf]; omega
end Go.Proofs.YtcfobekkchhbbaaGreat.EE

