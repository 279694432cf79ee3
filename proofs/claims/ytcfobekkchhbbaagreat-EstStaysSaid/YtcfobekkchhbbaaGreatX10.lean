import Derived.Test.YtcfobekkchhbbaaGreatX5
import Derived.LoopTactic
import Derived.Lib.Hide
import Derived.Deep.RegionHeld3
import Derived.Laws.AppendOwn
import Derived.Deep.WholeRow
import Derived.ChangeKeysEq
/- Joined and thinned by a program of this session's own (wip/pack2.py) out of its texts (wip/ of its repo); parts were laid by its own program (wip/print-patch.py over the kit's print) out of the translation; Lean checks all. -/
set_option maxRecDepth 100000
set_option maxHeartbeats 8000000
namespace Go.Proofs.YtcfobekkchhbbaaGreat.PQ
open Go.RowKit Go.Proofs.af.aK Go.Proofs.af.aV Go.Proofs.af.aW
set_option linter.unusedVariables false
set_option linter.unusedSimpArgs false
def Row (w : World) (B : Nat) (t : TypeId) (cs : Array Value) : Prop := w.heap[B]? = some (.cells cs t (0, 0))
section
variable {w w' : World} {B : Nat} {t : TypeId} {cs : Array Value}
theorem Row.cell (h : Row w B t cs) (i : Nat) : w.cell? ⟨B, i, none⟩ = cs[i]? := by unfold Row at h; simp [World.cell?, h]
theorem Row.free (h : Row w B t cs) (i : Nat) : w.frozen? ⟨B, i, none⟩ = false := by unfold Row at h; simp [World.frozen?, h]
theorem Row.lt (h : Row w B t cs) : B < w.heap.size := by
 rcases Nat.lt_or_ge B w.heap.size with hl | hl
 · exact hl
 · unfold Row at h; rw [Array.getElem?_eq_none hl] at h; cases h
theorem Row.new (w : World) (t : TypeId) (cs : Array Value) : Row (w.alloc (.cells cs t)) w.heap.size t cs := heap_alloc_new w _
theorem Row.alloc (h : Row w B t cs) (o : Obj) : Row (w.alloc o) B t cs := (Below.heap_alloc w o B h.lt).trans h
theorem Row.drew (h : Row w B t cs) : Row w.drew B t cs := h
theorem Row.below {n : Nat} (h : Row w B t cs) (hb : Below n w w') (hn : B < n) : Row w' B t cs := (hb.block B hn).trans h
theorem Row.set (h : Row w B t cs) (i : Nat) (u : Value) : Row (w.setCell ⟨B, i, none⟩ u) B t (cs.setIfInBounds i u) := by
 unfold Row at h ⊢
 simp [World.setCell, Array.getElem?_modify, h]
theorem Row.far (h : Row w B t cs) {p : Addr} (hp : B ≠ p.block) (u : Value) : Row (w.setCell p u) B t cs := (Below.heap_setCell w p u B hp).trans h
theorem Row.grown {r : Option Nat} (h : Row w B t cs) (hg : w.grownBy w' r) (hr : some B ≠ r) : Row w' B t cs := (hg.block B h.lt hr).trans h
end
theorem dJ {w w1 : World} (hb : Below w.heap.size w w1) (r : Option Nat) : w.grownBy w1 r := ⟨hb.os, hb.tape, hb.output, hb.size, fun k hk _ => hb.block k hk⟩
theorem Gl {w w1 : World} {B : Nat} (h : w.grownBy w1 (some B)) (i : Nat) (u : Value) : w.grownBy (w1.setCell ⟨B, i, none⟩ u) (some B) :=
 ⟨h.os, h.tape, h.output, by simpa using h.size, fun k hk hr => (Below.heap_setCell w1 ⟨B, i, none⟩ u k (fun e => hr (by rw [e]))).trans (h.block k hk hr)⟩
theorem bT {w w1 w2 : World} {r : Option Nat} (h : w.grownBy w1 r) (h' : w1.grownBy w2 r) : w.grownBy w2 r :=
 ⟨h'.os.trans h.os, h'.tape.trans h.tape, h'.output.trans h.output, Nat.le_trans h.size h'.size, fun k hk hr => (h'.block k (Nat.lt_of_lt_of_le hk h.size) hr).trans (h.block k hk hr)⟩
abbrev Flag (w : World) (F : Nat) (b : Bool) : Prop := Row w F 191 #[.bool b]
def xw (w : World) (F : Nat) (v : Value) (b : Bool) (e : Ending) (w' : World) : Prop := e = .returned v ∧ w.grownBy w' (some F) ∧ Flag w' F b
theorem dQ (F : Nat) (f b : Bool) (a : Int) (w : World) (hf : Flag w F f) : Calls Tryz.prog 136 #[.pointer (some ⟨F, 0, none⟩), .int .i64 a, .bool b] w (xw w F (.int .i64 a) (f || b)) := by
 have hc := hf.cell 0; have hz := hf.free 0; have HF := Lib.hid hf; clear hf
 cases f
 · go_enter Tryz.func136, Tryz.ntmps136
   go_wp2
   go_ret
   exact ⟨rfl, Gl (World.grownBy.refl w _) 0 _, by simpa using HF.out.set 0 (.bool b)⟩
 · go_enter Tryz.func136, Tryz.ntmps136
   go_wp2
   go_ret
   exact ⟨rfl, Gl (World.grownBy.refl w _) 0 _, by simpa using HF.out.set 0 (.bool true)⟩
def Ou (a b : Int) : Int := cl (cl a + cl b)
def Ov (a b : Int) : Bool := (od a || od b) || od (cl a + cl b)
def qX (a b : Int) : Int := cl (cl a - cl b)
def YY (a b : Int) : Bool := (od a || od b) || od (cl a - cl b)
def mulR (a b : Int) : Int × Bool := flag (od a || od b) (sg (sz (cl a) * sz (cl b) / 309485009821345068724781056) (lw (sz (cl a) * sz (cl b))) ((decide (cl a < 0)) != (decide (cl b < 0))))
def jY (a b : Int) : Int := (mulR a b).1
def qY (a b : Int) : Bool := (mulR a b).2
def divV (a b : Int) : Int := (A_ a b).1
def divO (a b : Int) : Bool := (A_ a b).2
def Both (w : World) (v : Int) (o : Bool) (e : Ending) (w' : World) : Prop := e = .returned (.tuple #[.int .i64 v, .bool o]) ∧ Below w.heap.size w w'
theorem pK (a b : Int) (w : World) : Calls Tryz.prog 94 #[.int .i64 a, .int .i64 b] w (Both w (Ou a b) (Ov a b)) := rP.calls a b _ _ w (YA a b)
theorem rJ (a b : Int) (w : World) : Calls Tryz.prog 91 #[.int .i64 a, .int .i64 b] w (Both w (qX a b) (YY a b)) := rM.calls a b _ _ w (Yh a b)
theorem gJ (a b : Int) (w : World) : Calls Tryz.prog 92 #[.int .i64 a, .int .i64 b] w (Both w (jY a b) (qY a b)) := rO.calls a b _ _ w (Yk a b)
theorem xg (a b : Int) (w : World) : Calls Tryz.prog 144 #[.int .i64 a, .int .i64 b] w (Both w (divV a b) (divO a b)) := by
 obtain ⟨k, h⟩ := (Yw a b).rounds; exact mW.calls k a b _ _ w h
theorem DL (F : Nat) (f : Bool) (a : Int) (w : World) (hf : Flag w F f) : Calls Tryz.prog 139 #[.pointer (some ⟨F, 0, none⟩), .int .i64 a] w (xw w F (.int .i64 (qX 0 a)) (f || YY 0 a)) := by
 have hl := hf.lt; have HF := Lib.hid hf; clear hf
 go_enter Tryz.func139, Tryz.ntmps139
 go_wp2_with fail
 refine (rJ _ _ _).mono ?_
 rintro e w1 ⟨rfl, hb⟩; have H1 := Lib.hid (HF.out.below hb hl); have HB := Lib.hid hb; clear hb
 go_wp2_with fail
 refine (dQ F f _ _ _ H1.out).mono ?_
 rintro e w2 ⟨rfl, hg, hf2⟩; have HG := Lib.hid (bT (dJ HB.out _) hg); have H2 := Lib.hid hf2; clear hg hf2; go_wp2
 go_ret
 exact ⟨rfl, HG.out, H2.out⟩
def at3 (x y z : Int) : Nat → Int
 | 0 => x
 | 1 => y
 | _ => z
theorem U8 {w : World} {B T : Nat} {x y z : Int} (h : Row w B T #[.int .i64 x, .int .i64 y, .int .i64 z]) (k : Nat) (hk : k < 3) : w.cell? ⟨B, k, none⟩ = some (.int .i64 (at3 x y z k)) := by
 rw [h.cell]
 obtain rfl | rfl | rfl : k = 0 ∨ k = 1 ∨ k = 2 := by omega
 all_goals rfl
def uO (e : Nat → Int) (a : Int) : Nat → Int
 | 0 => a
 | k + 1 => Ou (uO e a k) (e k)
def Fg (e : Nat → Int) (f : Bool) (a : Int) : Nat → Bool
 | 0 => f
 | k + 1 => Fg e f a k || Ov (uO e a k) (e k)
theorem rH (F B c T : Nat) (f : Bool) (a x y z : Int) (w : World) (hf : Flag w F f) (hr : Row w B T #[.int .i64 x, .int .i64 y, .int .i64 z]) (hne : B ≠ F) :
 Calls Tryz.prog 141 #[.pointer (some ⟨F, 0, none⟩), .int .i64 a, .slice (some ⟨B, 0, none⟩) 3 c] w (xw w F (.int .i64 (uO (at3 x y z) a 3)) (Fg (at3 x y z) f a 3)) := by
 have HF := Lib.hid hf; have HR := Lib.hid hr; have HN := Lib.hid hne; clear hf hr hne
 go_enter Tryz.func141, Tryz.ntmps141
 go_wp2
 go_loopw [1, 11] (fun s i wr => ∃ k : Nat, k ≤ 3 ∧ i = .int .i64 k ∧ s = .int .i64 (uO (at3 x y z) a k) ∧ Hid (Flag wr F (Fg (at3 x y z) f a k)) ∧ Hid (Row wr B T #[.int .i64 x, .int .i64 y, .int .i64 z]) ∧ Hid (w.grownBy wr (some F))) (fun _ i _ => 3 - (intOf i).toNat)
 case atStart => exact ⟨0, by omega, rfl, rfl, HF, HR, Lib.hid (World.grownBy.refl w _)⟩
 case round =>
  obtain ⟨k, hk, rfl, rfl, H1, H2, H3⟩ := hrel
  by_cases hlt : k < 3
  · have hc := U8 H2.out k hlt
    go_wp2_with fail
    refine (pK _ _ _).mono ?_
    rintro e w1 ⟨rfl, hb⟩; have H4 := Lib.hid (H1.out.below hb H1.out.lt); have H5 := Lib.hid (H2.out.below hb H2.out.lt); have HB := Lib.hid hb; clear hb hc
    go_wp2_with fail
    refine (dQ F _ _ _ _ H4.out).mono ?_
    rintro e w2 ⟨rfl, hg, hf2⟩; have H6 := Lib.hid (H5.out.grown hg (by simpa using HN.out)); have H7 := Lib.hid (bT (bT H3.out (dJ HB.out _)) hg); have H8 := Lib.hid hf2; clear hg hf2; go_wp2
    go_roundw
    case rel => exact ⟨k + 1, by omega, by go_num, rfl, H8, H6, H7⟩
    case measure => simp [intOf]; omega
  · have hk3 : 3 ≤ k := by omega
    go_wp2
    go_ret
    obtain rfl : k = 3 := by omega
    exact ⟨rfl, H3.out, H1.out⟩
end Go.Proofs.YtcfobekkchhbbaaGreat.PQ

namespace Go.Proofs.YtcfobekkchhbbaaGreat.PQ
open Go.RowKit
def uT (P : Program) : List Oper → Act → World → Result Act
 | [], a, w => .ok a w
 | o :: rest, a, w => match (execOp a.eval o).run P w with
   | .ok (.value v) w' => uT P rest (a.put o.dst v) w'
   | .ok .skip w' => uT P rest (a.put o.dst undef) w'
   | .ok _ w' => .halt (.stuck "no value") w'
   | .halt h w' => .halt h w'
theorem nZ {P : Program} {ops : Array Oper} {Q : Exit → Act → World → Prop} {rest : List Oper} : ∀ (l : List Oper) (a a' : Act) (w w' : World), (l.all fun o => o.guard.isNone) = true → uT P l a w = .ok a' w' →
 wpList P ops Q rest a' w' → wpList P ops Q (l ++ rest) a w
 | [], a, a', w, w', _, h, hq => by
   simp only [uT] at h
   injection h with h1 h2
   subst h1 h2; exact hq
 | o :: l, a, a', w, w', hg, h, hq => by
   simp only [List.all_cons, Bool.and_eq_true] at hg
   have hgo : o.guard = none := by simpa using hg.1
   refine wpList_plain hgo fun K hK => ?_
   unfold uT at h
   unfold Oper.wp
   generalize (execOp a.eval o).run P w = r at *
   cases r with
   | halt x w1 => cases h
   | ok n w1 =>
     cases n <;> try cases h
     · exact hK _ _ (nZ l _ _ _ _ hg.2 h hq)
     · exact hK _ _ (nZ l _ _ _ _ hg.2 h hq)
def uN : Array Value := #[.int .i64 0, .int .i64 0, .int .i64 1, .int .i64 1, .int .i64 1, .int .i64 (-1), .int .i64 2, .int .i64 2, .int .i64 (-1), .int .i64 3, .int .i64 3, .int .i64 (-1),
 .int .i64 0, .int .i64 1, .int .i64 1, .int .i64 1, .int .i64 0, .int .i64 1, .int .i64 2, .int .i64 3, .int .i64 1, .int .i64 3, .int .i64 2, .int .i64 (-1),
 .int .i64 0, .int .i64 2, .int .i64 1, .int .i64 1, .int .i64 3, .int .i64 (-1), .int .i64 2, .int .i64 0, .int .i64 1, .int .i64 3, .int .i64 1, .int .i64 1,
 .int .i64 0, .int .i64 3, .int .i64 1, .int .i64 1, .int .i64 2, .int .i64 1, .int .i64 2, .int .i64 1, .int .i64 (-1), .int .i64 3, .int .i64 0, .int .i64 1]
def got : Result Act → Act
 | .ok a _ => a
 | .halt _ _ => { tmps := #[], defers := [] }
theorem Fa {P : Program} {ops : Array Oper} {Q : Exit → Act → World → Prop} (n : Nat) {l : List Oper} {a : Act} {w : World} (hg : ((l.take n).all fun o => o.guard.isNone) = true)
 (h : uT P (l.take n) a w = .ok (got (uT P (l.take n) a default)) w) (hq : wpList P ops Q (l.drop n) (got (uT P (l.take n) a default)) w) : wpList P ops Q l a w := by
 have := nZ (rest := l.drop n) (l.take n) _ _ _ _ hg h hq
 rwa [List.take_append_drop] at this
theorem zB {P : Program} {ops : Array Oper} {Q : Exit → Act → World → Prop} {rest : List Oper} {o : Oper} {a : Act} {w : World} (hg : o.guard = none) (t : TypeId) (x y : Operand) (c c' : Array Value) (ho : o.op = .store t x y)
 (hx : a.eval x = .pointer (some ⟨w.heap.size, 0, none⟩)) (hy : a.eval y = .agg c') (hi : (P.info? t).map (·.size) = some c'.size) (hs : c.size = c'.size) (h1 : c'.all (·.oneCell') = true)
 (h : wpList P ops Q rest (a.put o.dst undef) (w.alloc (.cells c' t))) : wpList P ops Q (o :: rest) a (w.alloc (.cells c t)) := by
 refine wpList_plain hg fun K hK => ?_
 unfold Oper.wp execOp
 simp only [ho, hx, hy, Sem.run_bind, run_storeAt_new w t c c' hi hs h1, Result.andThen, Sem.run_pure]; exact hK _ _ h
theorem JC (w : World) : Calls Tryz.prog 140 #[] w fun e w' => e = .returned (.agg uN) ∧ Below w.heap.size w w' := by
 refine calls_of_wp Tryz.func140 rfl ?_
 refine wp_seq ?_
 refine wp_region_lit ?_
 refine nZ (rest := []) [_] _ { tmps := #[.pointer (some ⟨w.heap.size, 0, none⟩)] ++ Array.replicate 21 undef, defers := [] } _ (w.alloc (.cells (Array.replicate 48 (.int .i64 0)) 198)) rfl (by kernel_rfl) ?_
 refine wpList_nil ?_
 simp only [Exit.then]; refine wp_seq ?_
 refine wp_region_lit ?_
 refine Fa 21 (by kernel_rfl) (by kernel_rfl) ?_
 refine zB rfl 198 (.tmp 0) (.tmp 21) _ uN rfl (by kernel_rfl) (by kernel_rfl) (by kernel_rfl) (by kernel_rfl) (by kernel_rfl) ?_
 refine wpList_nil ?_
 simp only [Exit.then]; refine wp_ret ?_
 refine bodyPost_ret (v := .agg uN) (results_cell_row (p := 0) (ty := 198) rfl _ _ w.heap.size 198 uN (0, 0) _ (by kernel_rfl) (heap_alloc_last _ _) Tryz.underlying198 rfl (by kernel_rfl)) (by kernel_rfl) ⟨rfl, (Below.refl _ _).alloc (Nat.le_refl _) _⟩
end Go.Proofs.YtcfobekkchhbbaaGreat.PQ

namespace Go.Proofs.YtcfobekkchhbbaaGreat.PQ
open Go.RowKit Go.Proofs.af.aK Go.Proofs.af.aV Go.Proofs.af.aW
set_option linter.unusedVariables false
set_option linter.unusedSimpArgs false
abbrev r_ (w : World) (B : Nat) (p : Nat → Int) : Prop := Row w B 26 #[.int .i64 (p 0), .int .i64 (p 1), .int .i64 (p 2), .int .i64 (p 3)]
theorem r_.at_ {w : World} {B : Nat} {p : Nat → Int} (h : r_ w B p) (k : Nat) (hk : k < 4) : w.cell? ⟨B, k, none⟩ = some (.int .i64 (p k)) := by
 rw [h.cell]
 obtain rfl | rfl | rfl | rfl : k = 0 ∨ k = 1 ∨ k = 2 ∨ k = 3 := by omega
 all_goals rfl
def uI (p q : Nat → Int) (i j : Nat) (s : Int) : Int := if s < 0 then qX 0 (jY (p i) (q j)) else jY (p i) (q j)
def rG (p q : Nat → Int) (i j : Nat) (s : Int) (f : Bool) : Bool := if s < 0 then (f || qY (p i) (q j)) || YY 0 (jY (p i) (q j)) else f || qY (p i) (q j)
theorem SI {w w1 : World} {F A B : Nat} {f : Bool} {p q : Nat → Int} {cs : Array Value} (hf : Flag w F f) (hp : r_ w A p) (hq : r_ w B q)
 (hb : Below ((w.alloc (.cells cs 194)).drew).heap.size ((w.alloc (.cells cs 194)).drew) w1) : Flag w1 F f ∧ r_ w1 A p ∧ r_ w1 B q ∧ Row w1 w.heap.size 194 cs ∧ Below w.heap.size w w1 := by
 have e : ((w.alloc (.cells cs 194)).drew).heap.size = w.heap.size + 1 := by simp
 rw [e] at hb; have l1 := hf.lt; have l2 := hp.lt; have l3 := hq.lt; exact ⟨((hf.alloc _).drew).below hb (by omega), ((hp.alloc _).drew).below hb (by omega), ((hq.alloc _).drew).below hb (by omega), ((Row.new w 194 cs).drew).below hb (by omega),
  (((Below.refl w.heap.size w).alloc (Nat.le_refl _) _).drew).trans (hb.mono (by omega))⟩
theorem SG {w w1 w2 : World} {F A B X : Nat} {p q : Nat → Int} {cs : Array Value} (hp : r_ w1 A p) (hq : r_ w1 B q) (hX : Row w1 X 194 cs) (hB : Below w.heap.size w w1) (hg : w1.grownBy w2 (some F)) (nA : A ≠ F) (nB : B ≠ F) (nX : X ≠ F) :
 r_ w2 A p ∧ r_ w2 B q ∧ Row w2 X 194 cs ∧ w.grownBy w2 (some F) :=
 ⟨hp.grown hg (by simpa using nA), hq.grown hg (by simpa using nB), hX.grown hg (by simpa using nX), bT (dJ hB _) hg⟩
theorem LQ (F A B i j : Nat) (s : Int) (f : Bool) (p q : Nat → Int) (w : World) (hi : i < 4) (hj : j < 4) (hf : Flag w F f) (hp : r_ w A p) (hq : r_ w B q) (hA : A ≠ F) (hB : B ≠ F) :
 Calls Tryz.prog 138 #[.agg #[.int .i64 i, .int .i64 j, .int .i64 s], .pointer (some ⟨F, 0, none⟩), .pointer (some ⟨A, 0, none⟩), .pointer (some ⟨B, 0, none⟩)] w
  (xw w F (.int .i64 (uI p q i j s)) (rG p q i j s f)) := by
 have ci := hp.at_ i hi; have cj := hq.at_ j hj; have lF := hf.lt; have lA := hp.lt; have lB := hq.lt; have HF := Lib.hid hf; have HP := Lib.hid hp; have HQ := Lib.hid hq; have HA := Lib.hid hA; have HB := Lib.hid hB; clear hf hp hq hA hB; have HX := Lib.hid (show w.heap.size ≠ F by omega); have i0 : (0 : Int) ≤ (i : Int) := Int.natCast_nonneg _
 have i1 : (i : Int) < 4 := by omega
 have j0 : (0 : Int) ≤ (j : Int) := Int.natCast_nonneg _
 have j1 : (j : Int) < 4 := by omega
 go_enter Tryz.func138, Tryz.ntmps138
 go_wp2_with fail
 go_region_held3 (fun w' => w'.cell? ⟨w.heap.size, 0, none⟩ = some (.int .i64 i) ∧ w'.cell? ⟨w.heap.size, 1, none⟩ = some (.int .i64 j) ∧ w'.cell? ⟨A, i, none⟩ = some (.int .i64 (p i)) ∧ w'.cell? ⟨B, j, none⟩ = some (.int .i64 (q j))) (go_keep)
  (first
    | (go_at_call 92
       refine (gJ _ _ _).mono ?_
       rintro e w1 ⟨rfl, hb⟩; obtain ⟨h1, h2, h3, h4, h5⟩ := SI HF.out HP.out HQ.out hb; have ca1 := h2.at_ i hi; have cb1 := h3.at_ j hj; have amj := h4.cell 0; have ami := h4.cell 1; have H1 := Lib.hid h1; have H2 := Lib.hid h2; have H3 := Lib.hid h3; have H4 := Lib.hid h4; have H5 := Lib.hid h5
       clear hb h1 h2 h3 h4 h5)
    | (go_at_call 136
       refine (dQ F f _ _ _ H1.out).mono ?_
       rintro e w2 ⟨rfl, hg, hf2⟩; obtain ⟨h2, h3, h4, h5⟩ := SG H2.out H3.out H4.out H5.out hg HA.out HB.out HX.out; have ca2 := h2.at_ i hi; have cb2 := h3.at_ j hj; have amh := h4.cell 0; have amg := h4.cell 1; have amf := h4.cell 2; have J1 := Lib.hid hf2; have J5 := Lib.hid h5
       clear hg hf2 h2 h3 h4 h5))
 all_goals
  by_cases hs : s < 0
  · have hs' : decide (s < 0) = true := decide_eq_true hs
    go_wp2_with fail
    refine (DL F _ _ _ J1.out).mono ?_
    rintro e w3 ⟨rfl, hg3, hf3⟩; have G3 := Lib.hid (bT J5.out hg3); have F3 := Lib.hid hf3; clear hg3 hf3; go_wp2
    go_ret
    exact ⟨by simp [uI, hs], G3.out, by simpa [rG, hs] using F3.out⟩
  · have hs' : decide (s < 0) = false := decide_eq_false hs
    go_wp2
    go_ret
    have e1 : uI p q i j s = jY (p i) (q j) := if_neg (by omega); have e2 : rG p q i j s f = (f || qY (p i) (q j)) := if_neg (by omega); exact ⟨by simp [e1], J5.out, by rw [e2]; exact J1.out⟩
end Go.Proofs.YtcfobekkchhbbaaGreat.PQ

namespace Go.Proofs.YtcfobekkchhbbaaGreat.PQ
open Go.RowKit Go.Proofs.af.aK Go.Proofs.af.aV Go.Proofs.af.aW
set_option linter.unusedVariables false
set_option linter.unusedSimpArgs false
structure MS (w0 : World) (p q : Nat → Int) (f : Bool) (out : Array Value) (w : World) : Prop where
 rp : r_ w w0.heap.size p
 rq : r_ w (w0.heap.size + 1) q
 rr : Row w (w0.heap.size + 1 + 1) 26 #[.int .i64 0, .int .i64 0, .int .i64 0, .int .i64 0]
 fl : Flag w (w0.heap.size + 1 + 1 + 1) f
 ou : Row w (w0.heap.size + 1 + 1 + 1 + 1) 26 out
 be : Below w0.heap.size w0 w
section
variable {w0 w w' : World} {p q : Nat → Int} {f f' : Bool} {out : Array Value}
theorem MS.below (h : MS w0 p q f out w) (hb : Below w.heap.size w w') : MS w0 p q f out w' :=
 ⟨h.rp.below hb h.rp.lt, h.rq.below hb h.rq.lt, h.rr.below hb h.rr.lt, h.fl.below hb h.fl.lt, h.ou.below hb h.ou.lt, h.be.trans (hb.mono h.be.size)⟩
theorem MS.alloc (h : MS w0 p q f out w) (o : Obj) : MS w0 p q f out (w.alloc o) :=
 ⟨h.rp.alloc o, h.rq.alloc o, h.rr.alloc o, h.fl.alloc o, h.ou.alloc o, h.be.alloc h.be.size o⟩
theorem MS.drew (h : MS w0 p q f out w) : MS w0 p q f out w.drew := ⟨h.rp, h.rq, h.rr, h.fl, h.ou, h.be.drew⟩
theorem MS.qP (h : MS w0 p q f out w) (hg : w.grownBy w' (some (w0.heap.size + 1 + 1 + 1))) (hf : Flag w' (w0.heap.size + 1 + 1 + 1) f') : MS w0 p q f' out w' :=
 ⟨h.rp.grown hg (by (try simp); (try omega)), h.rq.grown hg (by (try simp); (try omega)), h.rr.grown hg (by (try simp); (try omega)), hf, h.ou.grown hg (by (try simp); (try omega)),
   ⟨hg.os.trans h.be.os, hg.tape.trans h.be.tape, hg.output.trans h.be.output, Nat.le_trans h.be.size hg.size, fun k hk => (hg.block k (Nat.lt_of_lt_of_le hk h.be.size) (by (try simp); (try omega))).trans (h.be.block k hk)⟩⟩
theorem MS.put (h : MS w0 p q f out w) (i : Nat) (u : Value) : MS w0 p q f (out.setIfInBounds i u) (w.setCell ⟨w0.heap.size + 1 + 1 + 1 + 1, i, none⟩ u) :=
 ⟨h.rp.far (by (try simp); (try omega)) u, h.rq.far (by (try simp); (try omega)) u, h.rr.far (by (try simp); (try omega)) u, h.fl.far (by (try simp); (try omega)) u, h.ou.set i u, h.be.setCell (by (try simp); (try omega)) u⟩
end
theorem Row.at_ (w : World) (t : TypeId) (cs : Array Value) {B : Nat} (h : B = w.heap.size) : Row (w.alloc (.cells cs t)) B t cs := h ▸ Row.new w t cs
theorem yC (a b s : Int) (F A B : Nat) (f : Bool) (p q : Nat → Int) (w : World) (ha : 0 ≤ a ∧ a < 4) (hb : 0 ≤ b ∧ b < 4) (hf : Flag w F f) (hp : r_ w A p) (hq : r_ w B q) (hA : A ≠ F) (hB : B ≠ F) :
 Calls Tryz.prog 138 #[.agg #[.int .i64 a, .int .i64 b, .int .i64 s], .pointer (some ⟨F, 0, none⟩), .pointer (some ⟨A, 0, none⟩), .pointer (some ⟨B, 0, none⟩)] w
  (xw w F (.int .i64 (uI p q a.toNat b.toNat s)) (rG p q a.toNat b.toNat s f)) := by
 have h := LQ F A B a.toNat b.toNat s f p q w (by omega) (by omega) hf hp hq hA hB
 rwa [Int.toNat_of_nonneg ha.1, Int.toNat_of_nonneg hb.1] at h
def comp (p q : Nat → Int) : Nat → Int
 | 0 => uO (at3 (uI p q 1 1 (-1)) (uI p q 2 2 (-1)) (uI p q 3 3 (-1))) (uI p q 0 0 1) 3
 | 1 => uO (at3 (uI p q 1 0 1) (uI p q 2 3 1) (uI p q 3 2 (-1))) (uI p q 0 1 1) 3
 | 2 => uO (at3 (uI p q 1 3 (-1)) (uI p q 2 0 1) (uI p q 3 1 1)) (uI p q 0 2 1) 3
 | _ => uO (at3 (uI p q 1 2 1) (uI p q 2 1 (-1)) (uI p q 3 0 1)) (uI p q 0 3 1) 3
def acd (p q : Nat → Int) (f : Bool) : Nat → Bool
 | 0 => Fg (at3 (uI p q 1 1 (-1)) (uI p q 2 2 (-1)) (uI p q 3 3 (-1))) (rG p q 3 3 (-1) (rG p q 2 2 (-1) (rG p q 1 1 (-1) (rG p q 0 0 1 f)))) (uI p q 0 0 1) 3
 | 1 => Fg (at3 (uI p q 1 0 1) (uI p q 2 3 1) (uI p q 3 2 (-1))) (rG p q 3 2 (-1) (rG p q 2 3 1 (rG p q 1 0 1 (rG p q 0 1 1 f)))) (uI p q 0 1 1) 3
 | 2 => Fg (at3 (uI p q 1 3 (-1)) (uI p q 2 0 1) (uI p q 3 1 1)) (rG p q 3 1 1 (rG p q 2 0 1 (rG p q 1 3 (-1) (rG p q 0 2 1 f)))) (uI p q 0 2 1) 3
 | _ => Fg (at3 (uI p q 1 2 1) (uI p q 2 1 (-1)) (uI p q 3 0 1)) (rG p q 3 0 1 (rG p q 2 1 (-1) (rG p q 1 2 1 (rG p q 0 3 1 f)))) (uI p q 0 3 1) 3
def xO (p q : Nat → Int) : Nat → Bool
 | 0 => false
 | k + 1 => acd p q (xO p q k) k
def VR (p q : Nat → Int) : Nat → Array Value
 | 0 => #[.int .i64 0, .int .i64 0, .int .i64 0, .int .i64 0]
 | k + 1 => (VR p q k).setIfInBounds k (.int .i64 (comp p q k))
theorem ix0 (w : World) : (Instr.index 198 (.agg uN) (.int .i64 0)).run Tryz.prog w = .ok (.agg #[.int .i64 0, .int .i64 0, .int .i64 1, .int .i64 1, .int .i64 1, .int .i64 (-1), .int .i64 2, .int .i64 2, .int .i64 (-1), .int .i64 3, .int .i64 3, .int .i64 (-1)]) w := by kernel_rfl
theorem ix1 (w : World) : (Instr.index 198 (.agg uN) (.int .i64 1)).run Tryz.prog w = .ok (.agg #[.int .i64 0, .int .i64 1, .int .i64 1, .int .i64 1, .int .i64 0, .int .i64 1, .int .i64 2, .int .i64 3, .int .i64 1, .int .i64 3, .int .i64 2, .int .i64 (-1)]) w := by kernel_rfl
theorem ix2 (w : World) : (Instr.index 198 (.agg uN) (.int .i64 2)).run Tryz.prog w = .ok (.agg #[.int .i64 0, .int .i64 2, .int .i64 1, .int .i64 1, .int .i64 3, .int .i64 (-1), .int .i64 2, .int .i64 0, .int .i64 1, .int .i64 3, .int .i64 1, .int .i64 1]) w := by kernel_rfl
theorem ix3 (w : World) : (Instr.index 198 (.agg uN) (.int .i64 3)).run Tryz.prog w = .ok (.agg #[.int .i64 0, .int .i64 3, .int .i64 1, .int .i64 1, .int .i64 2, .int .i64 1, .int .i64 2, .int .i64 1, .int .i64 (-1), .int .i64 3, .int .i64 0, .int .i64 1]) w := by kernel_rfl
theorem Gi (p q : Nat → Int) (w : World) :
 Calls Tryz.prog 86 #[.agg #[.int .i64 (p 0), .int .i64 (p 1), .int .i64 (p 2), .int .i64 (p 3)], .agg #[.int .i64 (q 0), .int .i64 (q 1), .int .i64 (q 2), .int .i64 (q 3)]] w fun e w' =>
  e = .returned (.tuple #[.agg (VR p q 4), .bool (xO p q 4)]) ∧ Below w.heap.size w w' := by
 go_enter Tryz.func86, Tryz.ntmps86
 go_wp2_with fail
 refine (JC _).mono ?_
 rintro e w1 ⟨rfl, hb⟩
 have M : Hid (MS w p q false (VR p q 0) w1) := by
  refine Lib.hid (MS.below ⟨?_, ?_, ?_, ?_, ?_, ?_⟩ hb)
  · exact ((((Row.new w 26 _).alloc _).alloc _).alloc _).alloc _
  · exact (((Row.at_ (w.alloc _) 26 _ (by simp)).alloc _).alloc _).alloc _
  · exact ((Row.at_ ((w.alloc _).alloc _) 26 _ (by simp)).alloc _).alloc _
  · exact (Row.at_ (((w.alloc _).alloc _).alloc _) 191 _ (by simp)).alloc _
  · exact Row.at_ ((((w.alloc _).alloc _).alloc _).alloc _) 26 _ (by simp)
  · exact (((((Below.refl _ w).alloc (by simp) _).alloc (by simp) _).alloc (by simp; omega) _).alloc (by simp; omega) _).alloc (by simp; omega) _
 clear hb
 go_wp2_with fail
 go_loopw [13] (fun i wr => ∃ k : Nat, k ≤ 4 ∧ i = .int .i64 k ∧ Hid (MS w p q (xO p q k) (VR p q k) wr)) (fun i _ => 4 - (intOf i).toNat)
 case atStart => exact ⟨0, by omega, rfl, M⟩
 case round =>
  clear M; obtain ⟨k, hk, rfl, M⟩ := hrel
  obtain rfl | rfl | rfl | rfl | rfl : k = 0 ∨ k = 1 ∨ k = 2 ∨ k = 3 ∨ k = 4 := by omega
  · have ixk := ix0
    go_wp2_with fail
    have lw := M.out.ou.lt; have X : Hid (Row (wr.alloc (.cells #[.int .i64 0, .int .i64 0, .int .i64 1, .int .i64 1, .int .i64 1, .int .i64 (-1), .int .i64 2, .int .i64 2, .int .i64 (-1), .int .i64 3, .int .i64 3, .int .i64 (-1)] 197)).drew wr.heap.size 197 #[.int .i64 0, .int .i64 0, .int .i64 1, .int .i64 1, .int .i64 1, .int .i64 (-1), .int .i64 2, .int .i64 2, .int .i64 (-1), .int .i64 3, .int .i64 3, .int .i64 (-1)]) := Lib.hid (Row.new wr 197 _).drew; have M' := Lib.hid (M.out.alloc (.cells #[.int .i64 0, .int .i64 0, .int .i64 1, .int .i64 1, .int .i64 1, .int .i64 (-1), .int .i64 2, .int .i64 2, .int .i64 (-1), .int .i64 3, .int .i64 3, .int .i64 (-1)] 197)).drew; clear M; have M := M'; clear M'
    go_region_held3 (fun w' => ∀ o, w'.cell? ⟨wr.heap.size, o, none⟩ = (#[.int .i64 0, .int .i64 0, .int .i64 1, .int .i64 1, .int .i64 1, .int .i64 (-1), .int .i64 2, .int .i64 2, .int .i64 (-1), .int .i64 3, .int .i64 3, .int .i64 (-1)] : Array Value)[o]?) (first | exact X.out.cell | exact (X.out.alloc _).cell | exact (X.out.far (p := ⟨w.heap.size + 1 + 1 + 1 + 1, _, none⟩) (by show wr.heap.size ≠ w.heap.size + 1 + 1 + 1 + 1; omega) _).cell | go_keep)
     (first
       | (go_at_call 138
          refine (yC _ _ _ _ _ _ _ p q _ (by omega) (by omega) (by exact M.out.fl) (by exact M.out.rp) (by exact M.out.rq) (by omega) (by omega)).mono ?_
          rintro e wn ⟨rfl, hg, hf⟩; have M' := Lib.hid (M.out.qP hg hf); have X' := Lib.hid (X.out.grown hg (by simp; omega)); clear M X hg hf; have M := M'; have X := X'
          clear M' X')
       | (go_at_call 141
          refine (rH _ _ _ _ _ _ _ _ _ _ (by exact (M.out.alloc _).fl) (Row.new _ _ _) (by have := M.out.fl.lt; omega)).mono ?_
          rintro e wn ⟨rfl, hg, hf⟩; have M' := Lib.hid ((M.out.alloc _).qP hg hf); have X' := Lib.hid ((X.out.alloc _).grown hg (by simp; omega)); have co := M'.out.ou.cell 0; have fo := M'.out.ou.free 0; clear M X hg hf; have M := M'; have X := X'
          clear M' X'))
    go_wp2
    go_roundw
    case rel => exact ⟨1, by omega, by go_num, Lib.hid (M.out.put 0 _)⟩
    case measure => simp [intOf]
  · have ixk := ix1
    go_wp2_with fail
    have lw := M.out.ou.lt; have X : Hid (Row (wr.alloc (.cells #[.int .i64 0, .int .i64 1, .int .i64 1, .int .i64 1, .int .i64 0, .int .i64 1, .int .i64 2, .int .i64 3, .int .i64 1, .int .i64 3, .int .i64 2, .int .i64 (-1)] 197)).drew wr.heap.size 197 #[.int .i64 0, .int .i64 1, .int .i64 1, .int .i64 1, .int .i64 0, .int .i64 1, .int .i64 2, .int .i64 3, .int .i64 1, .int .i64 3, .int .i64 2, .int .i64 (-1)]) := Lib.hid (Row.new wr 197 _).drew; have M' := Lib.hid (M.out.alloc (.cells #[.int .i64 0, .int .i64 1, .int .i64 1, .int .i64 1, .int .i64 0, .int .i64 1, .int .i64 2, .int .i64 3, .int .i64 1, .int .i64 3, .int .i64 2, .int .i64 (-1)] 197)).drew; clear M; have M := M'; clear M'
    go_region_held3 (fun w' => ∀ o, w'.cell? ⟨wr.heap.size, o, none⟩ = (#[.int .i64 0, .int .i64 1, .int .i64 1, .int .i64 1, .int .i64 0, .int .i64 1, .int .i64 2, .int .i64 3, .int .i64 1, .int .i64 3, .int .i64 2, .int .i64 (-1)] : Array Value)[o]?) (first | exact X.out.cell | exact (X.out.alloc _).cell | exact (X.out.far (p := ⟨w.heap.size + 1 + 1 + 1 + 1, _, none⟩) (by show wr.heap.size ≠ w.heap.size + 1 + 1 + 1 + 1; omega) _).cell | go_keep)
     (first
       | (go_at_call 138
          refine (yC _ _ _ _ _ _ _ p q _ (by omega) (by omega) (by exact M.out.fl) (by exact M.out.rp) (by exact M.out.rq) (by omega) (by omega)).mono ?_
          rintro e wn ⟨rfl, hg, hf⟩; have M' := Lib.hid (M.out.qP hg hf); have X' := Lib.hid (X.out.grown hg (by simp; omega)); clear M X hg hf; have M := M'; have X := X'
          clear M' X')
       | (go_at_call 141
          refine (rH _ _ _ _ _ _ _ _ _ _ (by exact (M.out.alloc _).fl) (Row.new _ _ _) (by have := M.out.fl.lt; omega)).mono ?_
          rintro e wn ⟨rfl, hg, hf⟩; have M' := Lib.hid ((M.out.alloc _).qP hg hf); have X' := Lib.hid ((X.out.alloc _).grown hg (by simp; omega)); have co := M'.out.ou.cell 1; have fo := M'.out.ou.free 1; clear M X hg hf; have M := M'; have X := X'
          clear M' X'))
    go_wp2
    go_roundw
    case rel => exact ⟨2, by omega, by go_num, Lib.hid (M.out.put 1 _)⟩
    case measure => simp [intOf]
  · have ixk := ix2
    go_wp2_with fail
    have lw := M.out.ou.lt; have X : Hid (Row (wr.alloc (.cells #[.int .i64 0, .int .i64 2, .int .i64 1, .int .i64 1, .int .i64 3, .int .i64 (-1), .int .i64 2, .int .i64 0, .int .i64 1, .int .i64 3, .int .i64 1, .int .i64 1] 197)).drew wr.heap.size 197 #[.int .i64 0, .int .i64 2, .int .i64 1, .int .i64 1, .int .i64 3, .int .i64 (-1), .int .i64 2, .int .i64 0, .int .i64 1, .int .i64 3, .int .i64 1, .int .i64 1]) := Lib.hid (Row.new wr 197 _).drew; have M' := Lib.hid (M.out.alloc (.cells #[.int .i64 0, .int .i64 2, .int .i64 1, .int .i64 1, .int .i64 3, .int .i64 (-1), .int .i64 2, .int .i64 0, .int .i64 1, .int .i64 3, .int .i64 1, .int .i64 1] 197)).drew; clear M; have M := M'; clear M'
    go_region_held3 (fun w' => ∀ o, w'.cell? ⟨wr.heap.size, o, none⟩ = (#[.int .i64 0, .int .i64 2, .int .i64 1, .int .i64 1, .int .i64 3, .int .i64 (-1), .int .i64 2, .int .i64 0, .int .i64 1, .int .i64 3, .int .i64 1, .int .i64 1] : Array Value)[o]?) (first | exact X.out.cell | exact (X.out.alloc _).cell | exact (X.out.far (p := ⟨w.heap.size + 1 + 1 + 1 + 1, _, none⟩) (by show wr.heap.size ≠ w.heap.size + 1 + 1 + 1 + 1; omega) _).cell | go_keep)
     (first
       | (go_at_call 138
          refine (yC _ _ _ _ _ _ _ p q _ (by omega) (by omega) (by exact M.out.fl) (by exact M.out.rp) (by exact M.out.rq) (by omega) (by omega)).mono ?_
          rintro e wn ⟨rfl, hg, hf⟩; have M' := Lib.hid (M.out.qP hg hf); have X' := Lib.hid (X.out.grown hg (by simp; omega)); clear M X hg hf; have M := M'; have X := X'
          clear M' X')
       | (go_at_call 141
          refine (rH _ _ _ _ _ _ _ _ _ _ (by exact (M.out.alloc _).fl) (Row.new _ _ _) (by have := M.out.fl.lt; omega)).mono ?_
          rintro e wn ⟨rfl, hg, hf⟩; have M' := Lib.hid ((M.out.alloc _).qP hg hf); have X' := Lib.hid ((X.out.alloc _).grown hg (by simp; omega)); have co := M'.out.ou.cell 2; have fo := M'.out.ou.free 2; clear M X hg hf; have M := M'; have X := X'
          clear M' X'))
    go_wp2
    go_roundw
    case rel => exact ⟨3, by omega, by go_num, Lib.hid (M.out.put 2 _)⟩
    case measure => simp [intOf]
  · have ixk := ix3
    go_wp2_with fail
    have lw := M.out.ou.lt; have X : Hid (Row (wr.alloc (.cells #[.int .i64 0, .int .i64 3, .int .i64 1, .int .i64 1, .int .i64 2, .int .i64 1, .int .i64 2, .int .i64 1, .int .i64 (-1), .int .i64 3, .int .i64 0, .int .i64 1] 197)).drew wr.heap.size 197 #[.int .i64 0, .int .i64 3, .int .i64 1, .int .i64 1, .int .i64 2, .int .i64 1, .int .i64 2, .int .i64 1, .int .i64 (-1), .int .i64 3, .int .i64 0, .int .i64 1]) := Lib.hid (Row.new wr 197 _).drew; have M' := Lib.hid (M.out.alloc (.cells #[.int .i64 0, .int .i64 3, .int .i64 1, .int .i64 1, .int .i64 2, .int .i64 1, .int .i64 2, .int .i64 1, .int .i64 (-1), .int .i64 3, .int .i64 0, .int .i64 1] 197)).drew; clear M; have M := M'; clear M'
    go_region_held3 (fun w' => ∀ o, w'.cell? ⟨wr.heap.size, o, none⟩ = (#[.int .i64 0, .int .i64 3, .int .i64 1, .int .i64 1, .int .i64 2, .int .i64 1, .int .i64 2, .int .i64 1, .int .i64 (-1), .int .i64 3, .int .i64 0, .int .i64 1] : Array Value)[o]?) (first | exact X.out.cell | exact (X.out.alloc _).cell | exact (X.out.far (p := ⟨w.heap.size + 1 + 1 + 1 + 1, _, none⟩) (by show wr.heap.size ≠ w.heap.size + 1 + 1 + 1 + 1; omega) _).cell | go_keep)
     (first
       | (go_at_call 138
          refine (yC _ _ _ _ _ _ _ p q _ (by omega) (by omega) (by exact M.out.fl) (by exact M.out.rp) (by exact M.out.rq) (by omega) (by omega)).mono ?_
          rintro e wn ⟨rfl, hg, hf⟩; have M' := Lib.hid (M.out.qP hg hf); have X' := Lib.hid (X.out.grown hg (by simp; omega)); clear M X hg hf; have M := M'; have X := X'
          clear M' X')
       | (go_at_call 141
          refine (rH _ _ _ _ _ _ _ _ _ _ (by exact (M.out.alloc _).fl) (Row.new _ _ _) (by have := M.out.fl.lt; omega)).mono ?_
          rintro e wn ⟨rfl, hg, hf⟩; have M' := Lib.hid ((M.out.alloc _).qP hg hf); have X' := Lib.hid ((X.out.alloc _).grown hg (by simp; omega)); have co := M'.out.ou.cell 3; have fo := M'.out.ou.free 3; clear M X hg hf; have M := M'; have X := X'
          clear M' X'))
    go_wp2
    go_roundw
    case rel => exact ⟨4, by omega, by go_num, Lib.hid (M.out.put 3 _)⟩
    case measure => simp [intOf]
  · have M4 : Hid (MS w p q (xO p q 4) #[.int .i64 (comp p q 0), .int .i64 (comp p q 1), .int .i64 (comp p q 2), .int .i64 (comp p q 3)] wr) := Lib.hid M.out
    clear M; have cr := M4.out.rr.cell; have fr := M4.out.rr.free; have c0 := M4.out.ou.cell 0; have c1 := M4.out.ou.cell 1; have c2 := M4.out.ou.cell 2; have c3 := M4.out.ou.cell 3; have cf := M4.out.fl.cell 0
    go_wp2_with fail
    have nx : w.heap.size + 1 + 1 ≠ w.heap.size + 1 + 1 + 1 := by omega
    have ny : w.heap.size + 1 + 1 ≠ w.heap.size + 1 + 1 + 1 + 1 := by omega
    go_region_held3 (fun w' => w'.cell? ⟨w.heap.size + 1 + 1 + 1 + 1, 0, none⟩ = some (.int .i64 (comp p q 0)) ∧ w'.cell? ⟨w.heap.size + 1 + 1 + 1 + 1, 1, none⟩ = some (.int .i64 (comp p q 1)) ∧
     w'.cell? ⟨w.heap.size + 1 + 1 + 1 + 1, 2, none⟩ = some (.int .i64 (comp p q 2)) ∧ w'.cell? ⟨w.heap.size + 1 + 1 + 1 + 1, 3, none⟩ = some (.int .i64 (comp p q 3)) ∧ w'.cell? ⟨w.heap.size + 1 + 1 + 1, 0, none⟩ = some (.bool (xO p q 4))) (go_keep) (fail)
    all_goals go_wp2
    all_goals refine bodyPost_ret (v := .tuple #[.agg #[.int .i64 (comp p q 0), .int .i64 (comp p q 1), .int .i64 (comp p q 2), .int .i64 (comp p q 3)], .bool (xO p q 4)]) ?_ ?_ ⟨rfl, ?_⟩
    · have R := (((((M4.out.rr.set 0 (.int .i64 (comp p q 0))).set 1 (.int .i64 (comp p q 1))).set 2 (.int .i64 (comp p q 2))).set 3 (.int .i64 (comp p q 3))).drew)
      revert R
      generalize World.drew _ = wf; intro R; have r0 := R.cell 0; have r1 := R.cell 1; have r2 := R.cell 2; have r3 := R.cell 3
      simp at r0 r1 r2 r3
      simp [results, Tryz.f86, Tryz.results86, go_sem, r0, r1, r2, r3]
    · rfl
    · exact ((((M4.out.be.setCell (p := ⟨_, 0, none⟩) (by simp; omega) _).setCell (p := ⟨_, 1, none⟩) (by simp; omega) _).setCell (p := ⟨_, 2, none⟩) (by simp; omega) _).setCell (p := ⟨_, 3, none⟩) (by simp; omega) _).drew
end Go.Proofs.YtcfobekkchhbbaaGreat.PQ

namespace Go.Proofs.YtcfobekkchhbbaaGreat.PQ
open Go.RowKit Go.Proofs.af.aK Go.Proofs.af.aV Go.Proofs.af.aW
set_option linter.unusedVariables false
set_option linter.unusedSimpArgs false
def Rows (w : World) : Nat → List (TypeId × Array Value) → Prop
 | _, [] => True
 | b, x :: l => Row w b x.1 x.2 ∧ Rows w (b + 1) l
section
variable {w w' w0 : World} {b : Nat} {L : List (TypeId × Array Value)}
theorem Rows.imp (h : ∀ k t cs, b ≤ k → k < b + L.length → Row w k t cs → Row w' k t cs) (H : Rows w b L) : Rows w' b L := by
 induction L generalizing b with
 | nil => trivial
 | cons x l ih =>
   refine ⟨h b _ _ (Nat.le_refl _) (by simp) H.1, ih (fun k t cs h1 h2 => h k t cs (by omega) (by simp; omega)) H.2⟩
theorem Rows.alloc (h : Rows w b L) (o : Obj) : Rows (w.alloc o) b L := h.imp fun _ _ _ _ _ r => r.alloc o
theorem Rows.drew (h : Rows w b L) : Rows w.drew b L := h.imp fun _ _ _ _ _ r => r.drew
theorem Rows.below (h : Rows w b L) (hb : Below w.heap.size w w') : Rows w' b L := h.imp fun _ _ _ _ _ r => r.below hb r.lt
theorem Rows.yF (j : Nat) (t : TypeId) (cs : Array Value) (hr : Row w' (b + j) t cs) (h : ∀ k t cs, k ≠ b + j → Row w k t cs → Row w' k t cs) (H : Rows w b L) : Rows w' b (L.set j (t, cs)) := by
 induction L generalizing b j with
 | nil => trivial
 | cons x l ih =>
   cases j with
   | zero => exact ⟨hr, H.2.imp fun k t cs h1 h2 => h k t cs (by omega)⟩
   | succ j => exact ⟨h _ _ _ (by omega) H.1, ih j (by rwa [Nat.add_assoc, Nat.add_comm 1]) (fun k t cs h1 => h k t cs (by omega)) H.2⟩
theorem Rows.push (H : Rows w b L) (h : w.heap.size = b + L.length) (t : TypeId) (cs : Array Value) : Rows (w.alloc (.cells cs t)) b (L ++ [(t, cs)]) := by
 have := (H.alloc (.cells cs t))
 have e := Row.new w t cs; rw [h] at e; clear H h
 induction L generalizing b with
 | nil => exact ⟨e, trivial⟩
 | cons x l ih => exact ⟨this.1, ih this.2 (by simp only [List.length_cons] at e; rwa [Nat.add_assoc, Nat.add_comm 1])⟩
end
structure aY (w0 : World) (L : List (TypeId × Array Value)) (w : World) : Prop where
 rows : Rows w w0.heap.size L
 be : Below w0.heap.size w0 w
section
variable {w w' w0 : World} {L : List (TypeId × Array Value)}
theorem aY.none (w : World) : aY w [] w := ⟨trivial, Below.refl _ w⟩
theorem aY.push (h : aY w0 L w) (e : w.heap.size = w0.heap.size + L.length) (t : TypeId) (cs : Array Value) : aY w0 (L ++ [(t, cs)]) (w.alloc (.cells cs t)) :=
 ⟨h.rows.push e t cs, h.be.alloc h.be.size _⟩
theorem aY.alloc (h : aY w0 L w) (o : Obj) : aY w0 L (w.alloc o) := ⟨h.rows.alloc o, h.be.alloc h.be.size o⟩
theorem aY.drew (h : aY w0 L w) : aY w0 L w.drew := ⟨h.rows.drew, h.be.drew⟩
theorem aY.below (h : aY w0 L w) (hb : Below w.heap.size w w') : aY w0 L w' := ⟨h.rows.below hb, h.be.trans (hb.mono h.be.size)⟩
theorem aY.grown (j : Nat) (t : TypeId) (cs : Array Value) (h : aY w0 L w) (hg : w.grownBy w' (some (w0.heap.size + j))) (hr : Row w' (w0.heap.size + j) t cs) : aY w0 (L.set j (t, cs)) w' :=
 ⟨h.rows.yF j t cs hr fun k t cs hk r => r.grown hg (by simpa using hk),
   ⟨hg.os.trans h.be.os, hg.tape.trans h.be.tape, hg.output.trans h.be.output, Nat.le_trans h.be.size hg.size, fun k hk => (hg.block k (Nat.lt_of_lt_of_le hk h.be.size) (by simp; omega)).trans (h.be.block k hk)⟩⟩
theorem aY.put (j : Nat) (h : aY w0 L w) (t : TypeId) (cs : Array Value) (hr : Row w (w0.heap.size + j) t cs) (i : Nat) (u : Value) : aY w0 (L.set j (t, cs.setIfInBounds i u)) (w.setCell ⟨w0.heap.size + j, i, .none⟩ u) :=
 ⟨h.rows.yF j t _ (hr.set i u) fun k t cs hk r => r.far (by simpa using hk) u, h.be.setCell (by simp) u⟩
variable {x0 x1 x2 x3 x4 x5 : TypeId × Array Value}
theorem aY.r0 (h : aY w0 (x0 :: L) w) : Row w w0.heap.size x0.1 x0.2 := h.rows.1
theorem aY.r1 (h : aY w0 (x0 :: x1 :: L) w) : Row w (w0.heap.size + 1) x1.1 x1.2 := h.rows.2.1
theorem aY.r2 (h : aY w0 (x0 :: x1 :: x2 :: L) w) : Row w (w0.heap.size + 1 + 1) x2.1 x2.2 := h.rows.2.2.1
theorem aY.r5 (h : aY w0 (x0 :: x1 :: x2 :: x3 :: x4 :: x5 :: L) w) : Row w (w0.heap.size + 1 + 1 + 1 + 1 + 1) x5.1 x5.2 := h.rows.2.2.2.2.2.1
end
theorem Row.jH {w : World} {B : Nat} {t : TypeId} {u0 u1 u2 u3 : Value} (h : Row w B t #[u0, u1, u2, u3]) (a b c d : Value) :
 Row ((((w.setCell ⟨B, 0, none⟩ a).setCell ⟨B, 1, none⟩ b).setCell ⟨B, 2, none⟩ c).setCell ⟨B, 3, none⟩ d) B t #[a, b, c, d] := (((h.set 0 a).set 1 b).set 2 c).set 3 d
theorem Below.jH {n : Nat} {w0 w : World} {B : Nat} (h : Below n w0 w) (hn : n ≤ B) (a b c d : Value) :
 Below n w0 ((((w.setCell ⟨B, 0, none⟩ a).setCell ⟨B, 1, none⟩ b).setCell ⟨B, 2, none⟩ c).setCell ⟨B, 3, none⟩ d) :=
 (((h.setCell (p := ⟨B, 0, none⟩) hn a).setCell (p := ⟨B, 1, none⟩) hn b).setCell (p := ⟨B, 2, none⟩) hn c).setCell (p := ⟨B, 3, none⟩) hn d
abbrev q4 (a b c d : Int) : Array Value := #[.int .i64 a, .int .i64 b, .int .i64 c, .int .i64 d]
theorem Oe (a b c d : Int) (w : World) :
 Calls Tryz.prog 145 #[.agg #[.int .i64 a, .int .i64 b, .int .i64 c, .int .i64 d]] w fun e w' =>
  e = .returned (.agg #[.int .i64 a, .int .i64 (qX 0 b), .int .i64 (qX 0 c), .int .i64 (qX 0 d)]) ∧ Below w.heap.size w w' := by
 go_enter Tryz.func145, Tryz.ntmps145
 go_wp2_with fail
 have M : Hid (aY w [(26, q4 a b c d), (26, q4 0 0 0 0), (191, #[.bool false])] (((w.alloc (.cells (q4 a b c d) 26)).alloc (.cells (q4 0 0 0 0) 26)).alloc (.cells #[.bool false] 191)).drew) :=
  Lib.hid ((((aY.none w).push (by simp) _ _).push (by simp) _ _).push (by simp) _ _).drew
 have M1 : Hid (∃ f, aY w [(26, q4 a b c d), (26, q4 0 0 0 0), (191, #[.bool f])] (((w.alloc (.cells (q4 a b c d) 26)).alloc (.cells (q4 0 0 0 0) 26)).alloc (.cells #[.bool false] 191)).drew) := Lib.hid ⟨false, M.out⟩; clear M
 go_region_held3 (fun w' => ∀ o, w'.cell? ⟨w.heap.size, o, none⟩ = (q4 a b c d)[o]?) (first | exact M1.out.choose_spec.r0.cell | go_keep)
  (first
  | (go_at_call 139
     obtain ⟨f, M⟩ := M1.out; refine (DL _ f _ _ (by exact M.r2)).mono ?_
     rintro e wn ⟨rfl, hg, hf⟩; have M' := Lib.hid (⟨_, M.grown 2 _ _ hg hf⟩ : ∃ f, aY w [(26, q4 a b c d), (26, q4 0 0 0 0), (191, #[.bool f])] wn); clear M M1 hg hf; have M1 := M'; clear M'; have co0 := M1.out.choose_spec.r1.cell 0; have co1 := M1.out.choose_spec.r1.cell 1; have co2 := M1.out.choose_spec.r1.cell 2; have co3 := M1.out.choose_spec.r1.cell 3; have fo0 := M1.out.choose_spec.r1.free 0; have fo1 := M1.out.choose_spec.r1.free 1; have fo2 := M1.out.choose_spec.r1.free 2
     have fo3 := M1.out.choose_spec.r1.free 3))
 all_goals go_wp2
 have R := M1.out.choose_spec.r1.jH (.int .i64 a) (.int .i64 (qX 0 b)) (.int .i64 (qX 0 c)) (.int .i64 (qX 0 d)); have HB := Below.jH (B := w.heap.size + 1) M1.out.choose_spec.be (by omega) (.int .i64 a) (.int .i64 (qX 0 b)) (.int .i64 (qX 0 c)) (.int .i64 (qX 0 d)); clear M1 co0 co1 co2 co3 fo0 fo1 fo2 fo3
 revert R HB
 generalize World.setCell (World.setCell (World.setCell (World.setCell wn _ _) _ _) _ _) _ _ = wf; intro R HB; refine bodyPost_ret (v := .agg (q4 a (qX 0 b) (qX 0 c) (qX 0 d))) ?_ rfl ⟨rfl, HB⟩
 have r0 := R.cell 0; have r1 := R.cell 1; have r2 := R.cell 2; have r3 := R.cell 3
 simp at r0 r1 r2 r3
 simp [results, Tryz.f145, Tryz.results145, go_sem, r0, r1, r2, r3]
end Go.Proofs.YtcfobekkchhbbaaGreat.PQ

namespace Go.Proofs.YtcfobekkchhbbaaGreat.PQ
open Go.RowKit Go.Proofs.af.aK Go.Proofs.af.aV Go.Proofs.af.aW
set_option linter.unusedVariables false
set_option linter.unusedSimpArgs false
def at4 (a b c d : Int) : Nat → Int
 | 0 => a
 | 1 => b
 | 2 => c
 | _ => d
theorem VX (p q : Nat → Int) (w : World) :
 Calls Tryz.prog 86 #[.agg #[.int .i64 (p 0), .int .i64 (p 1), .int .i64 (p 2), .int .i64 (p 3)], .agg #[.int .i64 (q 0), .int .i64 (q 1), .int .i64 (q 2), .int .i64 (q 3)]] w fun x w' =>
  x = .returned (.tuple #[.agg #[.int .i64 (comp p q 0), .int .i64 (comp p q 1), .int .i64 (comp p q 2), .int .i64 (comp p q 3)], .bool (xO p q 4)]) ∧ Below w.heap.size w w' := Gi p q w
theorem Row.kept {w w' : World} {t : TypeId} {cs : Array Value} (hb : Below (w.alloc (.cells cs t)).heap.size (w.alloc (.cells cs t)) w') : Row w' w.heap.size t cs := (Row.new w t cs).below hb (Row.new w t cs).lt
theorem Row.qx {w : World} {B C : Nat} {t : TypeId} {cs : Array Value} {a b c d : Value} (h : Row w B t cs) (hne : B ≠ C) :
 Row ((((w.setCell ⟨C, 0, none⟩ a).setCell ⟨C, 1, none⟩ b).setCell ⟨C, 2, none⟩ c).setCell ⟨C, 3, none⟩ d) B t cs :=
 (((h.far (p := ⟨C, 0, none⟩) hne a).far (p := ⟨C, 1, none⟩) hne b).far (p := ⟨C, 2, none⟩) hne c).far (p := ⟨C, 3, none⟩) hne d
theorem aY.qx {w0 w : World} {L : List (TypeId × Array Value)} {C : Nat} {a b c d : Value} (h : aY w0 L w) (hC : w0.heap.size + L.length ≤ C) :
 aY w0 L ((((w.setCell ⟨C, 0, Option.none⟩ a).setCell ⟨C, 1, Option.none⟩ b).setCell ⟨C, 2, Option.none⟩ c).setCell ⟨C, 3, Option.none⟩ d) :=
 ⟨h.rows.imp fun k t cs h1 h2 r => r.qx (by omega), Below.jH h.be (by omega) a b c d⟩
def cj (p : Nat → Int) : Nat → Int := at4 (p 0) (qX 0 (p 1)) (qX 0 (p 2)) (qX 0 (p 3))
def OY (p v : Nat → Int) : Nat → Int := comp (comp p v) (cj p)
def abg (p v : Nat → Int) : Bool := xO p v 4 || xO (comp p v) (cj p) 4
theorem Pm (a b c d e f g h r0 r1 r2 r3 : Int) (fl : Bool) (p q : Nat → Int) (hp : p = at4 a b c d) (hq : q = at4 e f g h) (h0 : r0 = comp p q 0) (h1 : r1 = comp p q 1) (h2 : r2 = comp p q 2) (h3 : r3 = comp p q 3)
 (hf : fl = xO p q 4) (w : World) :
 Calls Tryz.prog 86 #[.agg #[.int .i64 a, .int .i64 b, .int .i64 c, .int .i64 d], .agg #[.int .i64 e, .int .i64 f, .int .i64 g, .int .i64 h]] w fun x w' =>
  x = .returned (.tuple #[.agg #[.int .i64 r0, .int .i64 r1, .int .i64 r2, .int .i64 r3], .bool fl]) ∧ Below w.heap.size w w' := by
 have h := VX p q w; rw [← h0, ← h1, ← h2, ← h3, ← hf] at h; subst hp hq; exact h
theorem UQ (a b c d b' c' d' : Int) (hb : b' = qX 0 b) (hc : c' = qX 0 c) (hd : d' = qX 0 d) (w : World) :
 Calls Tryz.prog 145 #[.agg #[.int .i64 a, .int .i64 b, .int .i64 c, .int .i64 d]] w fun e w' =>
  e = .returned (.agg #[.int .i64 a, .int .i64 b', .int .i64 c', .int .i64 d']) ∧ Below w.heap.size w w' := by
 subst hb hc hd; exact Oe a b c d w
theorem Qx (a b c d x y z b' c' d' a0 a1 a2 a3 r0 r1 r2 r3 : Int) (fa fb : Bool)
 (hA : ∀ w, Calls Tryz.prog 86 #[.agg #[.int .i64 a, .int .i64 b, .int .i64 c, .int .i64 d], .agg #[.int .i64 0, .int .i64 x, .int .i64 y, .int .i64 z]] w fun e w' =>
   e = .returned (.tuple #[.agg #[.int .i64 a0, .int .i64 a1, .int .i64 a2, .int .i64 a3], .bool fa]) ∧ Below w.heap.size w w')
 (hC : ∀ w, Calls Tryz.prog 145 #[.agg #[.int .i64 a, .int .i64 b, .int .i64 c, .int .i64 d]] w fun e w' =>
   e = .returned (.agg #[.int .i64 a, .int .i64 b', .int .i64 c', .int .i64 d']) ∧ Below w.heap.size w w')
 (hB : ∀ w, Calls Tryz.prog 86 #[.agg #[.int .i64 a0, .int .i64 a1, .int .i64 a2, .int .i64 a3], .agg #[.int .i64 a, .int .i64 b', .int .i64 c', .int .i64 d']] w fun e w' =>
   e = .returned (.tuple #[.agg #[.int .i64 r0, .int .i64 r1, .int .i64 r2, .int .i64 r3], .bool fb]) ∧ Below w.heap.size w w') (w : World) :
 Calls Tryz.prog 88 #[.agg #[.int .i64 a, .int .i64 b, .int .i64 c, .int .i64 d], .agg #[.int .i64 x, .int .i64 y, .int .i64 z]] w fun e w' =>
  e = .returned (.tuple #[.agg #[.int .i64 r1, .int .i64 r2, .int .i64 r3], .bool (fa || fb)]) ∧ Below w.heap.size w w' := by
 have HA := Lib.hid hA; have HB := Lib.hid hB; have HC := Lib.hid hC; clear hA hB hC
 go_enter Tryz.func88, Tryz.ntmps88
 go_wp2_with fail
 refine (HA.out _).mono ?_
 rintro e w1 ⟨rfl, hb⟩
 have M : Hid (aY w [(26, q4 a b c d), (53, #[.int .i64 x, .int .i64 y, .int .i64 z]), (53, #[.int .i64 0, .int .i64 0, .int .i64 0])] w1) :=
  Lib.hid ((((((aY.none w).push (by simp) _ _).push (by simp) _ _).push (by simp) _ _)).below hb)
 clear hb; have l0 := M.out.r2.lt; have q0 := M.out.r0.cell
 go_wp2_with fail
 have MA := Lib.hid (M.out.alloc (.cells (q4 a0 a1 a2 a3) 26)).drew; have NA := Lib.hid (Row.new w1 26 (q4 a0 a1 a2 a3)).drew; have MZ := Lib.hid ((M.out.alloc (.cells (q4 a0 a1 a2 a3) 26)).alloc (.cells (q4 0 0 0 0) 26)).drew; have NZ := Lib.hid ((Row.new w1 26 (q4 a0 a1 a2 a3)).alloc (.cells (q4 0 0 0 0) 26)).drew; have OZ : Hid (Row ((w1.alloc (.cells (q4 a0 a1 a2 a3) 26)).alloc (.cells (q4 0 0 0 0) 26)).drew (w1.heap.size + 1) 26 (q4 0 0 0 0)) := Lib.hid (Row.at_ (w1.alloc (.cells (q4 a0 a1 a2 a3) 26)) 26 (q4 0 0 0 0) (by simp)).drew; clear M q0
 go_region_held3 (fun w' => (∀ o, w'.cell? ⟨w.heap.size, o, none⟩ = (q4 a b c d)[o]?) ∧ (∀ o, w'.cell? ⟨w1.heap.size, o, none⟩ = (q4 a0 a1 a2 a3)[o]?)) (first | with_reducible exact ⟨MA.out.r0.cell, NA.out.cell⟩ | with_reducible exact ⟨MZ.out.r0.cell, NZ.out.cell⟩ | with_reducible exact ⟨M2.out.r0.cell, N2.out.cell⟩ | with_reducible exact ⟨(M2.out.alloc _).r0.cell, (N2.out.alloc _).cell⟩ | with_reducible exact ⟨M1.out.r0.cell, N1.out.cell⟩ | with_reducible exact ⟨(M1.out.alloc _).r0.cell, (N1.out.alloc _).cell⟩ | with_reducible exact ⟨(MA.out.alloc _).r0.cell, (NA.out.alloc _).cell⟩ | with_reducible exact ⟨(M2.out.r0.qx (by omega)).cell, (N2.out.qx (by omega)).cell⟩ | with_reducible exact ⟨((M2.out.alloc _).r0.qx (by omega)).cell, ((N2.out.alloc _).qx (by omega)).cell⟩ | go_keep)
  (first
  | (go_at_call 145
     refine (HC.out _).mono ?_
     rintro e w2 ⟨rfl, hb2⟩; have M1 : Hid (aY w [(26, q4 a b c d), (53, #[.int .i64 x, .int .i64 y, .int .i64 z]), (53, #[.int .i64 0, .int .i64 0, .int .i64 0])] w2) := Lib.hid (by first | with_reducible exact MA.out.below hb2 | with_reducible exact MZ.out.below hb2); have N1 : Hid (Row w2 w1.heap.size 26 (q4 a0 a1 a2 a3)) := Lib.hid (by first | with_reducible exact NA.out.below hb2 NA.out.lt | with_reducible exact NZ.out.below hb2 NZ.out.lt); have l1 := N1.out.lt
     try (have O1 : Hid (Row w2 (w1.heap.size + 1) 26 (q4 0 0 0 0)) := Lib.hid (by with_reducible exact OZ.out.below hb2 OZ.out.lt))
     clear hb2)
  | (go_at_call 86
     refine (HB.out _).mono ?_
     rintro e w3 ⟨rfl, hb3⟩; have M2 : Hid (aY w [(26, q4 a b c d), (53, #[.int .i64 x, .int .i64 y, .int .i64 z]), (53, #[.int .i64 0, .int .i64 0, .int .i64 0])] w3) := Lib.hid (by first | with_reducible exact M1.out.below hb3 | with_reducible exact (M1.out.alloc _).below hb3); have N2 : Hid (Row w3 w1.heap.size 26 (q4 a0 a1 a2 a3)) := Lib.hid (by first | with_reducible exact N1.out.below hb3 N1.out.lt | with_reducible exact (N1.out.alloc _).below hb3 (N1.out.alloc _).lt)
     try (have O2' := by with_reducible exact Row.kept hb3
          have O2 := Lib.hid O2'
          clear O2')
     try (have O2 := Lib.hid (O1.out.below hb3 O1.out.lt))
     try (have oc0 := O2.out.cell 0
          have oc1 := O2.out.cell 1; have oc2 := O2.out.cell 2; have oc3 := O2.out.cell 3; have of0 := O2.out.free 0; have of1 := O2.out.free 1; have of2 := O2.out.free 2
          have of3 := O2.out.free 3)
     have l2 := N2.out.lt; have l3 := M2.out.r2.lt
     clear hb3))
 all_goals clear HA HB HC
 all_goals first
  | (clear O1
     have RX := Lib.hid (O2.out.jH (.int .i64 r0) (.int .i64 r1) (.int .i64 r2) (.int .i64 r3))
     have LX : w.heap.size + 2 < w1.heap.size + 1 := by omega
     have SX := Lib.hid (M2.out.qx (a := .int .i64 r0) (b := .int .i64 r1) (c := .int .i64 r2) (d := .int .i64 r3) (C := w1.heap.size + 1) (by simp; omega)); clear M2 N2 M1 N1 MA NA MZ NZ OZ O2 oc0 oc1 oc2 oc3 of0 of1 of2 of3 l1 l2 l3
     revert RX SX LX
     generalize World.setCell (World.setCell (World.setCell (World.setCell w3 _ _) _ _) _ _) _ _ = wf
     generalize w1.heap.size + 1 = C)
  | (have RX := Lib.hid (O2.out.jH (.int .i64 r0) (.int .i64 r1) (.int .i64 r2) (.int .i64 r3))
     have LX : w.heap.size + 2 < w2.heap.size := by omega
     have SX := Lib.hid (M2.out.qx (a := .int .i64 r0) (b := .int .i64 r1) (c := .int .i64 r2) (d := .int .i64 r3) (C := w2.heap.size) (by simp; omega)); clear M2 N2 M1 N1 MA NA MZ NZ OZ O2 oc0 oc1 oc2 oc3 of0 of1 of2 of3 l1 l2 l3
     revert RX SX LX
     generalize World.setCell (World.setCell (World.setCell (World.setCell w3 _ _) _ _) _ _) _ _ = wf
     generalize w2.heap.size = C)
  | (have RX := Lib.hid (Row.new w3 26 #[.int .i64 r0, .int .i64 r1, .int .i64 r2, .int .i64 r3])
     have LX : w.heap.size + 2 < w3.heap.size := l3; have SX := Lib.hid (M2.out.alloc (.cells #[.int .i64 r0, .int .i64 r1, .int .i64 r2, .int .i64 r3] 26)); clear M2 N2 M1 N1 MA NA MZ NZ OZ l1 l2 l3
     revert RX SX LX
     generalize World.alloc w3 _ = wf
     generalize w3.heap.size = C)
 all_goals
  intro RX LX SX; have c1 := RX.out.cell 1; have c2 := RX.out.cell 2; have c3 := RX.out.cell 3; have d0 := SX.out.r2.cell 0; have d1 := SX.out.r2.cell 1; have d2 := SX.out.r2.cell 2; have e0 := SX.out.r2.free 0; have e1 := SX.out.r2.free 1; have e2 := SX.out.r2.free 2
  cases fa
  all_goals go_wp2
 all_goals
  have R := ((SX.out.r2.set 0 (.int .i64 r1)).set 1 (.int .i64 r2)).set 2 (.int .i64 r3); have HB := ((SX.out.be.setCell (p := ⟨w.heap.size + 1 + 1, 0, none⟩) (by simp; omega) (.int .i64 r1)).setCell (p := ⟨w.heap.size + 1 + 1, 1, none⟩) (by simp; omega) (.int .i64 r2)).setCell (p := ⟨w.heap.size + 1 + 1, 2, none⟩) (by simp; omega) (.int .i64 r3); clear SX RX c1 c2 c3 d0 d1 d2 e0 e1 e2
  revert R HB
  generalize World.setCell (World.setCell (World.setCell wf _ _) _ _) _ _ = wg; intro R HB; refine bodyPost_ret (v := .tuple #[.agg #[.int .i64 r1, .int .i64 r2, .int .i64 r3], .bool _]) ?_ rfl ⟨rfl, HB⟩
  have x0 := R.cell 0; have x1 := R.cell 1; have x2 := R.cell 2
  simp at x0 x1 x2
  simp [results, Tryz.f88, Tryz.results88, go_sem, x0, x1, x2]
theorem JM (a b c d x y z : Int) (w : World) :
 Calls Tryz.prog 88 #[.agg #[.int .i64 a, .int .i64 b, .int .i64 c, .int .i64 d], .agg #[.int .i64 x, .int .i64 y, .int .i64 z]] w fun e w' =>
  e = .returned (.tuple #[.agg #[.int .i64 (OY (at4 a b c d) (at4 0 x y z) 1), .int .i64 (OY (at4 a b c d) (at4 0 x y z) 2), .int .i64 (OY (at4 a b c d) (at4 0 x y z) 3)],
    .bool (abg (at4 a b c d) (at4 0 x y z))]) ∧ Below w.heap.size w w' :=
 Qx a b c d x y z _ _ _ _ _ _ _ (OY (at4 a b c d) (at4 0 x y z) 0) _ _ _ _ _ (fun w => Pm _ _ _ _ _ _ _ _ _ _ _ _ _ _ _ rfl rfl rfl rfl rfl rfl rfl w) (fun w => UQ _ _ _ _ _ _ _ rfl rfl rfl w)
  (fun w => Pm _ _ _ _ _ _ _ _ _ _ _ _ _ (comp (at4 a b c d) (at4 0 x y z)) (cj (at4 a b c d)) (by funext k; rcases k with _ | _ | _ | k <;> rfl) rfl rfl rfl rfl rfl rfl w) w
end Go.Proofs.YtcfobekkchhbbaaGreat.PQ

namespace Go.Proofs.YtcfobekkchhbbaaGreat.PQ
open Go.RowKit Go.Proofs.af.aK Go.Proofs.af.aV Go.Proofs.af.aW
set_option linter.unusedVariables false
set_option linter.unusedSimpArgs false
def inB (a : Int) : Bool := !(decide (a < -70368744177664)) && !(decide (70368744177663 < a))
def fC (p : Nat → Int) : Nat → Bool
 | 0 => true
 | k + 1 => fC p k && inB (p k)
theorem sQ {p : Nat → Int} {k n : Nat} (h : inB (p k) = false) (hk : k < n) : fC p n = false := by
 induction n with
 | zero => omega
 | succ n ih =>
   rcases Nat.lt_or_ge k n with hl | hl
   · simp [fC, ih hl]
   · obtain rfl : k = n := by omega
     simp [fC, h]
theorem jG (a b c d : Int) (w : World) :
 Calls Tryz.prog 41 #[.agg #[.int .i64 a, .int .i64 b, .int .i64 c, .int .i64 d]] w fun e w' =>
  e = .returned (.bool (fC (at4 a b c d) 4)) ∧ Below w.heap.size w w' := by
 go_enter Tryz.func41, Tryz.ntmps41
 go_wp2
 go_loopw [6] (fun i wr => ∃ k : Nat, k ≤ 4 ∧ i = .int .i64 k ∧ fC (at4 a b c d) k = true ∧ Hid (Below w.heap.size w wr)) (fun i _ => 4 - (intOf i).toNat)
 case atStart => exact ⟨0, by omega, rfl, rfl, Lib.hid ((Below.refl _ w).alloc (by simp) _)⟩
 case round =>
  obtain ⟨k, hk, rfl, hr, M⟩ := hrel
  have key : ∀ n x, n < 4 → at4 a b c d n = x → k = n → x < -70368744177664 → fC (at4 a b c d) 4 = false := fun n x hn hx hk' hlt => sQ (k := n) (by simp [inB, hx, hlt]) hn
  have abE : ∀ n x, n < 4 → at4 a b c d n = x → k = n → 70368744177663 < x → fC (at4 a b c d) 4 = false := fun n x hn hx hk' hlt => sQ (k := n) (by simp [inB, hx, hlt]) hn
  have TS : ∀ n x, n < 4 → at4 a b c d n = x → k = n → ¬ x < -70368744177664 → ¬ 70368744177663 < x → fC (at4 a b c d) (n + 1) = true := fun n x hn hx hk' h1 h2 => by
   subst hk'; have e : fC (at4 a b c d) (k + 1) = (fC (at4 a b c d) k && inB (at4 a b c d k)) := rfl; rw [e, hr, hx]; simp [inB, h1, h2]
  have K1 := Lib.hid key; have K2 := Lib.hid abE; have K3 := Lib.hid TS; have R := Lib.hid hr; clear key abE TS hr
  obtain rfl | rfl | rfl | rfl | rfl : k = 0 ∨ k = 1 ∨ k = 2 ∨ k = 3 ∨ k = 4 := by omega
  · have ix : (Instr.index 26 (.agg #[.int .i64 a, .int .i64 b, .int .i64 c, .int .i64 d]) (.int .i64 0)).run Tryz.prog wr = .ok (.int .i64 a) wr := by kernel_rfl
    by_cases h1 : a < -70368744177664
    · have rf := K1.out 0 a (by omega) rfl rfl h1
      have d1 : decide (a < -70368744177664) = true := decide_eq_true h1; go_wp2
      go_ret
      exact ⟨rfl, M.out⟩
    · have d1 : decide (a < -70368744177664) = false := decide_eq_false h1
      by_cases h2 : 70368744177663 < a
      · have rf := K2.out 0 a (by omega) rfl rfl h2
        have d2 : decide (70368744177663 < a) = true := decide_eq_true h2; go_wp2
        go_ret
        exact ⟨rfl, M.out⟩
      · have rt := Lib.hid (K3.out 0 a (by omega) rfl rfl h1 h2)
        have d2 : decide (70368744177663 < a) = false := decide_eq_false h2; go_wp2
        go_roundw
        case rel => exact ⟨0 + 1, by omega, by go_num, rt.out, M⟩
        case measure => simp [intOf]
  · have ix : (Instr.index 26 (.agg #[.int .i64 a, .int .i64 b, .int .i64 c, .int .i64 d]) (.int .i64 1)).run Tryz.prog wr = .ok (.int .i64 b) wr := by kernel_rfl
    by_cases h1 : b < -70368744177664
    · have rf := K1.out 1 b (by omega) rfl rfl h1
      have d1 : decide (b < -70368744177664) = true := decide_eq_true h1; go_wp2
      go_ret
      exact ⟨rfl, M.out⟩
    · have d1 : decide (b < -70368744177664) = false := decide_eq_false h1
      by_cases h2 : 70368744177663 < b
      · have rf := K2.out 1 b (by omega) rfl rfl h2
        have d2 : decide (70368744177663 < b) = true := decide_eq_true h2; go_wp2
        go_ret
        exact ⟨rfl, M.out⟩
      · have rt := Lib.hid (K3.out 1 b (by omega) rfl rfl h1 h2)
        have d2 : decide (70368744177663 < b) = false := decide_eq_false h2; go_wp2
        go_roundw
        case rel => exact ⟨1 + 1, by omega, by go_num, rt.out, M⟩
        case measure => simp [intOf]
  · have ix : (Instr.index 26 (.agg #[.int .i64 a, .int .i64 b, .int .i64 c, .int .i64 d]) (.int .i64 2)).run Tryz.prog wr = .ok (.int .i64 c) wr := by kernel_rfl
    by_cases h1 : c < -70368744177664
    · have rf := K1.out 2 c (by omega) rfl rfl h1
      have d1 : decide (c < -70368744177664) = true := decide_eq_true h1; go_wp2
      go_ret
      exact ⟨rfl, M.out⟩
    · have d1 : decide (c < -70368744177664) = false := decide_eq_false h1
      by_cases h2 : 70368744177663 < c
      · have rf := K2.out 2 c (by omega) rfl rfl h2
        have d2 : decide (70368744177663 < c) = true := decide_eq_true h2; go_wp2
        go_ret
        exact ⟨rfl, M.out⟩
      · have rt := Lib.hid (K3.out 2 c (by omega) rfl rfl h1 h2)
        have d2 : decide (70368744177663 < c) = false := decide_eq_false h2; go_wp2
        go_roundw
        case rel => exact ⟨2 + 1, by omega, by go_num, rt.out, M⟩
        case measure => simp [intOf]
  · have ix : (Instr.index 26 (.agg #[.int .i64 a, .int .i64 b, .int .i64 c, .int .i64 d]) (.int .i64 3)).run Tryz.prog wr = .ok (.int .i64 d) wr := by kernel_rfl
    by_cases h1 : d < -70368744177664
    · have rf := K1.out 3 d (by omega) rfl rfl h1
      have d1 : decide (d < -70368744177664) = true := decide_eq_true h1; go_wp2
      go_ret
      exact ⟨rfl, M.out⟩
    · have d1 : decide (d < -70368744177664) = false := decide_eq_false h1
      by_cases h2 : 70368744177663 < d
      · have rf := K2.out 3 d (by omega) rfl rfl h2
        have d2 : decide (70368744177663 < d) = true := decide_eq_true h2; go_wp2
        go_ret
        exact ⟨rfl, M.out⟩
      · have rt := Lib.hid (K3.out 3 d (by omega) rfl rfl h1 h2)
        have d2 : decide (70368744177663 < d) = false := decide_eq_false h2; go_wp2
        go_roundw
        case rel => exact ⟨3 + 1, by omega, by go_num, rt.out, M⟩
        case measure => simp [intOf]
  · go_wp2
    go_ret
    exact ⟨by rw [R.out]; rfl, M.out⟩
theorem yP (a : Int) (w : World) : Calls Tryz.prog 51 #[.int .i64 a] w fun e w' => e = .returned (.bool (inB a)) ∧ Below w.heap.size w w' := by
 have h := fK.calls a (inB a) w (by rw [abH]; congr 1; unfold inB; rw [Bool.eq_iff_iff]; simp); exact h.mono fun e w' hx => ⟨hx.1, hx.2.below⟩
theorem uV (a b c d : Int) (w : World) :
 Calls Tryz.prog 23 #[.agg #[.int .i64 a, .int .i64 b, .int .i64 c, .int .i64 d]] w fun e w' =>
  e = .returned (.bool (fC (at4 a b c d) 4)) ∧ Below w.heap.size w w' := by
 go_enter Tryz.func23, Tryz.ntmps23
 go_wp2
 go_loopw [3] (fun i wr => ∃ k : Nat, k ≤ 4 ∧ i = .int .i64 k ∧ fC (at4 a b c d) k = true ∧ Hid (aY w [(26, q4 a b c d)] wr)) (fun i _ => 4 - (intOf i).toNat)
 case atStart => exact ⟨0, by omega, rfl, rfl, Lib.hid ((aY.none w).push (by simp) _ _)⟩
 case round =>
  obtain ⟨k, hk, rfl, hr, M⟩ := hrel
  have key : ∀ n x, n < 4 → at4 a b c d n = x → k = n → inB x = false → fC (at4 a b c d) 4 = false := fun n x hn hx hk' hlt => sQ (k := n) (by rw [hx, hlt]) hn
  have TS : ∀ n x, n < 4 → at4 a b c d n = x → k = n → inB x = true → fC (at4 a b c d) (n + 1) = true := fun n x hn hx hk' h1 => by
   subst hk'; have e : fC (at4 a b c d) (k + 1) = (fC (at4 a b c d) k && inB (at4 a b c d k)) := rfl; rw [e, hr, hx, h1]; rfl
  have K1 := Lib.hid key; have K3 := Lib.hid TS; have R := Lib.hid hr; clear key TS hr
  obtain rfl | rfl | rfl | rfl | rfl : k = 0 ∨ k = 1 ∨ k = 2 ∨ k = 3 ∨ k = 4 := by omega
  · have cx := M.out.r0.cell 0
    go_wp2_with fail
    refine (yP a _).mono ?_
    rintro e w1 ⟨rfl, hb⟩; have M1 := Lib.hid (M.out.below hb); clear hb M cx
    cases hi : inB a
    · have rf := K1.out 0 a (by omega) rfl rfl hi
      go_wp2
      go_ret
      exact ⟨by first | rfl | (rw [rf]; rfl), M1.out.be⟩
    · have rt := Lib.hid (K3.out 0 a (by omega) rfl rfl hi)
      go_wp2
      go_roundw
      case rel => exact ⟨0 + 1, by omega, by go_num, rt.out, M1⟩
      case measure => simp [intOf]
  · have cx := M.out.r0.cell 1
    go_wp2_with fail
    refine (yP b _).mono ?_
    rintro e w1 ⟨rfl, hb⟩; have M1 := Lib.hid (M.out.below hb); clear hb M cx
    cases hi : inB b
    · have rf := K1.out 1 b (by omega) rfl rfl hi
      go_wp2
      go_ret
      exact ⟨by first | rfl | (rw [rf]; rfl), M1.out.be⟩
    · have rt := Lib.hid (K3.out 1 b (by omega) rfl rfl hi)
      go_wp2
      go_roundw
      case rel => exact ⟨1 + 1, by omega, by go_num, rt.out, M1⟩
      case measure => simp [intOf]
  · have cx := M.out.r0.cell 2
    go_wp2_with fail
    refine (yP c _).mono ?_
    rintro e w1 ⟨rfl, hb⟩; have M1 := Lib.hid (M.out.below hb); clear hb M cx
    cases hi : inB c
    · have rf := K1.out 2 c (by omega) rfl rfl hi
      go_wp2
      go_ret
      exact ⟨by first | rfl | (rw [rf]; rfl), M1.out.be⟩
    · have rt := Lib.hid (K3.out 2 c (by omega) rfl rfl hi)
      go_wp2
      go_roundw
      case rel => exact ⟨2 + 1, by omega, by go_num, rt.out, M1⟩
      case measure => simp [intOf]
  · have cx := M.out.r0.cell 3
    go_wp2_with fail
    refine (yP d _).mono ?_
    rintro e w1 ⟨rfl, hb⟩; have M1 := Lib.hid (M.out.below hb); clear hb M cx
    cases hi : inB d
    · have rf := K1.out 3 d (by omega) rfl rfl hi
      go_wp2
      go_ret
      exact ⟨by first | rfl | (rw [rf]; rfl), M1.out.be⟩
    · have rt := Lib.hid (K3.out 3 d (by omega) rfl rfl hi)
      go_wp2
      go_roundw
      case rel => exact ⟨3 + 1, by omega, by go_num, rt.out, M1⟩
      case measure => simp [intOf]
  · go_wp2
    go_ret
    exact ⟨by rw [R.out]; rfl, M.out.be⟩
end Go.Proofs.YtcfobekkchhbbaaGreat.PQ

namespace Go.Proofs.YtcfobekkchhbbaaGreat.PQ
open Go.RowKit Go.Proofs.af.aK Go.Proofs.af.aV Go.Proofs.af.aW
set_option linter.unusedVariables false
set_option linter.unusedSimpArgs false
theorem Td (xs : Array Value) (k : Nat) (x : Int) (h : xs[k]? = some (.int .i64 x)) (w : World) : (part 22 xs k).run Tryz.prog w = .ok (.int .i64 x) w := by
 simp [part, go_sem, h]
theorem lY (a e : Int) (xs ys : Array Value) (k : Nat) (hx : xs[k]? = some (.int .i64 a)) (hy : ys[k]? = some (.int .i64 e)) (ks : List Nat) (r : Bool) (w : World)
 (h : (Op.eqItems 9999 22 1 xs ys ks).run Tryz.prog w = .ok r w) : (Op.eqItems 9999 22 1 xs ys (k :: ks)).run Tryz.prog w = .ok ((a == e) && r) w := by
 have p1 := Td xs (k * 1) a (by simpa using hx) w; have p2 := Td ys (k * 1) e (by simpa using hy) w; have p3 := run_equalIn_int w (P := Tryz.prog) 9998 22 .i64 .i64 a e rfl; simp only [Op.eqItems, Sem.run_bind, p1, p2, p3, Result.andThen_ok]
 cases hr : (a == e)
 · simp
 · simpa using h
theorem ZY (a b c d e f g h : Int) (w : World) :
 (Op.equalIn 10000 26 (.agg #[.int .i64 a, .int .i64 b, .int .i64 c, .int .i64 d]) (.agg #[.int .i64 e, .int .i64 f, .int .i64 g, .int .i64 h])).run Tryz.prog w = .ok ((a == e) && ((b == f) && ((c == g) && ((d == h) && true)))) w := by
 rw [run_equalIn_array (P := Tryz.prog) (w := w) 9999 (e := 22) (n := 4) (i := _) _ _ rfl rfl]; exact lY _ _ _ _ 0 rfl rfl _ _ w (lY _ _ _ _ 1 rfl rfl _ _ w (lY _ _ _ _ 2 rfl rfl _ _ w (lY _ _ _ _ 3 rfl rfl _ _ w (by simp [Op.eqItems]))))
theorem ahs (a b c e f g : Int) (w : World) :
 (Op.equalIn 10000 53 (.agg #[.int .i64 a, .int .i64 b, .int .i64 c]) (.agg #[.int .i64 e, .int .i64 f, .int .i64 g])).run Tryz.prog w = .ok ((a == e) && ((b == f) && ((c == g) && true))) w := by
 rw [run_equalIn_array (P := Tryz.prog) (w := w) 9999 (e := 22) (n := 3) (i := _) _ _ rfl rfl]; exact lY _ _ _ _ 0 rfl rfl _ _ w (lY _ _ _ _ 1 rfl rfl _ _ w (lY _ _ _ _ 2 rfl rfl _ _ w (by simp [Op.eqItems])))
end Go.Proofs.YtcfobekkchhbbaaGreat.PQ

namespace Go.Proofs.YtcfobekkchhbbaaGreat.PQ
set_option linter.unusedVariables false
set_option linter.unusedSimpArgs false
abbrev mQ (z : Int) : Prop := -70368744177664 ≤ z ∧ z ≤ 70368744177663
theorem yh {a b : Int} (ha : mQ a) (hb : mQ b) (hz : mQ (a + b)) : Ou a b = a + b := by unfold Ou; rw [rX ha.1 ha.2, rX hb.1 hb.2, rX hz.1 hz.2]
theorem yj {a b : Int} (ha : mQ a) (hb : mQ b) (hz : mQ (a + b)) : Ov a b = false := by unfold Ov; rw [rX ha.1 ha.2, rX hb.1 hb.2, xE hz.1 hz.2, xE ha.1 ha.2, xE hb.1 hb.2]; rfl
theorem Qn {x0 x1 x2 x3 : Int} (h0 : mQ x0) (h1 : mQ x1) (h2 : mQ x2) (h3 : mQ x3) (h01 : mQ (x0 + x1)) (h02 : mQ (x0 + x1 + x2)) (h03 : mQ (x0 + x1 + x2 + x3)) :
 uO (at3 x1 x2 x3) x0 3 = x0 + x1 + x2 + x3 ∧ ∀ f, Fg (at3 x1 x2 x3) f x0 3 = f := by
 have e1 : uO (at3 x1 x2 x3) x0 1 = x0 + x1 := by show Ou x0 x1 = _; exact yh h0 h1 h01
 have e2 : uO (at3 x1 x2 x3) x0 2 = x0 + x1 + x2 := by show Ou (uO (at3 x1 x2 x3) x0 1) x2 = _; rw [e1]; exact yh h01 h2 h02
 refine ⟨?_, fun f => ?_⟩
 · show Ou (uO (at3 x1 x2 x3) x0 2) x3 = _
   rw [e2]; exact yh h02 h3 h03
 · show (((f || Ov x0 x1) || Ov (uO (at3 x1 x2 x3) x0 1) x2) || Ov (uO (at3 x1 x2 x3) x0 2) x3) = f
   rw [e1, e2, yj h0 h1 h01, yj h01 h2 h02, yj h02 h3 h03, Bool.or_false, Bool.or_false, Bool.or_false]
end Go.Proofs.YtcfobekkchhbbaaGreat.PQ

namespace Go.Proofs.YtcfobekkchhbbaaGreat.PQ
open Go.RowKit Go.Proofs.af.aK Go.Proofs.af.aV Go.Proofs.af.aW
set_option linter.unusedVariables false
set_option linter.unusedSimpArgs false
def VK (q : Nat → Int) (i : Nat) : Int := jY (q i) (q i)
def Mc (q : Nat → Int) (i : Nat) (f : Bool) : Bool := f || qY (q i) (q i)
theorem yD (F B i : Nat) (f : Bool) (q : Nat → Int) (w : World) (hi : i < 4) (hf : Flag w F f) (hq : r_ w B q) (hB : B ≠ F) :
 Calls Tryz.prog 183 #[.int .i64 i, .pointer (some ⟨F, 0, none⟩), .pointer (some ⟨B, 0, none⟩)] w (xw w F (.int .i64 (VK q i)) (Mc q i f)) := by
 have ci := hq.at_ i hi; have HF := Lib.hid hf; have HQ := Lib.hid hq; have HB := Lib.hid hB; clear hf hq hB; have i0 : (0 : Int) ≤ (i : Int) := Int.natCast_nonneg _
 have i1 : (i : Int) < 4 := by omega
 go_enter Tryz.func183, Tryz.ntmps183
 go_wp2_with fail
 go_region_held3 (fun w' => w'.cell? ⟨B, i, none⟩ = some (.int .i64 (q i))) (first | exact r_.at_ H4.out i hi | exact r_.at_ H2.out i hi | exact r_.at_ HQ.out i hi | go_keep)
  (first
    | (go_at_call 92
       refine (gJ _ _ _).mono ?_
       rintro e w1 ⟨rfl, hb⟩; have H1 := Lib.hid (HF.out.drew.below hb HF.out.drew.lt); have H2 := Lib.hid (HQ.out.drew.below hb HQ.out.drew.lt); have H3 := Lib.hid (dJ (((Below.refl w.heap.size w).drew).trans hb) (some F))
       clear hb)
    | (go_at_call 136
       refine (dQ F f _ _ _ H1.out).mono ?_
       rintro e w2 ⟨rfl, hg, hf2⟩; have H4 := Lib.hid (H2.out.grown hg (by simpa using HB.out)); have H5 := Lib.hid (bT H3.out hg); have H6 := Lib.hid hf2
       clear hg hf2))
 all_goals go_wp2
 all_goals go_ret
 all_goals exact ⟨rfl, H5.out, H6.out⟩
def pX (q : Nat → Int) : Int := uO (at3 (VK q 1) (VK q 2) (VK q 3)) (VK q 0) 3
def uY (q : Nat → Int) : Bool := Fg (at3 (VK q 1) (VK q 2) (VK q 3)) (Mc q 3 (Mc q 2 (Mc q 1 (Mc q 0 false)))) (VK q 0) 3
theorem Nq (q : Nat → Int) (w : World) :
 Calls Tryz.prog 142 #[.agg #[.int .i64 (q 0), .int .i64 (q 1), .int .i64 (q 2), .int .i64 (q 3)]] w fun e w' => e = .returned (.tuple #[.int .i64 (pX q), .bool (uY q)]) ∧ Below w.heap.size w w' := by
 go_enter Tryz.func142, Tryz.ntmps142
 go_wp2_with fail
 have M : Hid (aY w [(26, q4 (q 0) (q 1) (q 2) (q 3)), (191, #[.bool false])] ((w.alloc (.cells (q4 (q 0) (q 1) (q 2) (q 3)) 26)).alloc (.cells #[.bool false] 191))) := Lib.hid (((aY.none w).push (by simp) _ _).push (by simp) _ _); refine (yD (w.heap.size + 1) w.heap.size 0 _ q _ (by omega) (by exact M.out.r1) (by exact M.out.r0) (by omega)).mono ?_
 rintro e w1 ⟨rfl, hg, hf⟩; have M' := Lib.hid (M.out.grown 1 _ _ hg hf); clear M hg hf; have M : Hid (aY w [(26, q4 (q 0) (q 1) (q 2) (q 3)), (191, #[.bool ((Mc q 0 false))])] w1) := M'; clear M'
 go_wp2_with fail
 refine (yD (w.heap.size + 1) w.heap.size 1 _ q _ (by omega) (by exact M.out.r1) (by exact M.out.r0) (by omega)).mono ?_
 rintro e w2 ⟨rfl, hg, hf⟩; have M' := Lib.hid (M.out.grown 1 _ _ hg hf); clear M hg hf; have M : Hid (aY w [(26, q4 (q 0) (q 1) (q 2) (q 3)), (191, #[.bool ((Mc q 1 (Mc q 0 false)))])] w2) := M'; clear M'
 go_wp2_with fail
 refine (yD (w.heap.size + 1) w.heap.size 2 _ q _ (by omega) (by exact M.out.r1) (by exact M.out.r0) (by omega)).mono ?_
 rintro e w3 ⟨rfl, hg, hf⟩; have M' := Lib.hid (M.out.grown 1 _ _ hg hf); clear M hg hf; have M : Hid (aY w [(26, q4 (q 0) (q 1) (q 2) (q 3)), (191, #[.bool ((Mc q 2 (Mc q 1 (Mc q 0 false))))])] w3) := M'; clear M'
 go_wp2_with fail
 refine (yD (w.heap.size + 1) w.heap.size 3 _ q _ (by omega) (by exact M.out.r1) (by exact M.out.r0) (by omega)).mono ?_
 rintro e w4 ⟨rfl, hg, hf⟩; have M' := Lib.hid (M.out.grown 1 _ _ hg hf); clear M hg hf; have M : Hid (aY w [(26, q4 (q 0) (q 1) (q 2) (q 3)), (191, #[.bool ((Mc q 3 (Mc q 2 (Mc q 1 (Mc q 0 false)))))])] w4) := M'; clear M'
 go_wp2_with fail
 refine (rH _ _ _ _ _ _ _ _ _ _ (by exact (M.out.alloc _).r1) (Row.new _ _ _) (by have := M.out.r1.lt; omega)).mono ?_
 rintro e w5 ⟨rfl, hg, hf⟩; have M' := Lib.hid ((M.out.alloc _).grown 1 _ _ hg hf); clear M hg hf; have M : Hid (aY w [(26, q4 (q 0) (q 1) (q 2) (q 3)), (191, #[.bool (uY q)])] w5) := M'; clear M'; have cf := M.out.r1.cell 0; go_wp2
 go_region_held3 (fun w' => w'.cell? ⟨w.heap.size + 1, 0, none⟩ = some (.bool (uY q))) (go_keep) (fail)
 all_goals go_wp2
 all_goals exact bodyPost_ret (v := .tuple #[.int .i64 (pX q), .bool (uY q)]) (by simp [results, Tryz.f142, Tryz.results142, go_sem, pX]) rfl ⟨rfl, M.out.be.drew⟩
end Go.Proofs.YtcfobekkchhbbaaGreat.PQ

namespace Go.Proofs.YtcfobekkchhbbaaGreat.PQ
set_option linter.unusedVariables false
set_option linter.unusedSimpArgs false
def hm0 (a b c d e f g h : Int) : Int := a * e + -(b * f) + -(c * g) + -(d * h)
def hm1 (a b c d e f g h : Int) : Int := a * f + b * e + c * h + -(d * g)
def hm2 (a b c d e f g h : Int) : Int := a * g + -(b * h) + c * e + d * f
def hm3 (a b c d e f g h : Int) : Int := a * h + b * g + -(c * f) + d * e
end Go.Proofs.YtcfobekkchhbbaaGreat.PQ

namespace Go.Proofs.YtcfobekkchhbbaaGreat.PQ
set_option linter.unusedVariables false
theorem lC {x y : Int} (h0 : 0 ≤ y) (h : y ≤ x) : y * y ≤ x * x := Int.mul_le_mul h h h0 (by omega)
theorem l_ {a R K : Int} (hR : 0 ≤ R) (hK : 0 ≤ K) (h : a * a < (R + K) * (R + K)) : -(R + K) < a ∧ a < R + K := by
 constructor
 · rcases Int.lt_or_le (-(R + K)) a with hl | hl
   · exact hl
   · have := lC (x := -a) (y := R + K) (by omega) (by omega)
     rw [Int.neg_mul_neg] at this; omega
 · rcases Int.lt_or_le a (R + K) with hl | hl
   · exact hl
   · have := lC (x := a) (y := R + K) (by omega) (by omega)
     omega
theorem B_ {x y A B : Int} (hA : 0 ≤ A) (hx : -A ≤ x) (hx' : x ≤ A) (hy : -B ≤ y) (hy' : y ≤ B) : -(A * B) ≤ x * y ∧ x * y ≤ A * B := by
 have h := Nat.mul_le_mul (show x.natAbs ≤ A.natAbs by omega) (show y.natAbs ≤ B.natAbs by omega); rw [← Int.natAbs_mul, ← Int.natAbs_mul] at h
 have hB : 0 ≤ B := by omega
 have := Int.mul_nonneg hA hB; omega
theorem BV {a u R : Int} (hR : 0 ≤ R) (ha : -(R + 6) < a ∧ a < R + 6) (hd : -R ≤ 2 * (u * R - a * 16777216) ∧ 2 * (u * R - a * 16777216) ≤ R) :
 ∃ E, u * u * (R * R) = a * a * 281474976710656 + E ∧ -(16777216 * ((R + 5) * R)) ≤ E ∧ 4 * E ≤ 4 * (16777216 * ((R + 5) * R)) + R * R := by
 have e : u * R = a * 16777216 + (u * R - a * 16777216) := by omega
 generalize hdd : u * R - a * 16777216 = d at *; have h1 := B_ (x := a) (y := 2 * d) (A := R + 5) (B := R) (by omega) (by omega) (by omega) (by omega) (by omega); have h2 := B_ (x := 2 * d) (y := 2 * d) (A := R) (B := R) hR (by omega) (by omega) (by omega) (by omega)
 have h3 : 0 ≤ d * d := by
  rcases Int.lt_or_le d 0 with h | h
  · have := Int.mul_nonneg (show 0 ≤ -d by omega) (show 0 ≤ -d by omega); rwa [Int.neg_mul_neg] at this
  · exact Int.mul_nonneg h h
 refine ⟨16777216 * (a * (2 * d)) + d * d, ?_, ?_, ?_⟩
 · have : u * u * (R * R) = (u * R) * (u * R) := by grind
   rw [this, e]; grind
 · omega
 · have : 2 * d * (2 * d) = 4 * (d * d) := by grind
   omega
theorem LH {a0 a1 a2 a3 n R u0 u1 u2 u3 m : Int} (hn0 : a0 * a0 + a1 * a1 + a2 * a2 + a3 * a3 - 33554432 ≤ n * 16777216) (hn1 : n * 16777216 ≤ a0 * a0 + a1 * a1 + a2 * a2 + a3 * a3 + 33554432)
 (hR : 4194296 ≤ R) (hR0 : R * R ≤ n * 16777216) (hR1 : n * 16777216 < (R + 1) * (R + 1))
 (h0 : -R ≤ 2 * (u0 * R - a0 * 16777216) ∧ 2 * (u0 * R - a0 * 16777216) ≤ R) (h1 : -R ≤ 2 * (u1 * R - a1 * 16777216) ∧ 2 * (u1 * R - a1 * 16777216) ≤ R)
 (h2 : -R ≤ 2 * (u2 * R - a2 * 16777216) ∧ 2 * (u2 * R - a2 * 16777216) ≤ R) (h3 : -R ≤ 2 * (u3 * R - a3 * 16777216) ∧ 2 * (u3 * R - a3 * 16777216) ≤ R)
 (hm0 : u0 * u0 + u1 * u1 + u2 * u2 + u3 * u3 - 33554432 ≤ m * 16777216) (hm1 : m * 16777216 ≤ u0 * u0 + u1 * u1 + u2 * u2 + u3 * u3 + 33554432) :
 16776960 ≤ m ∧ m ≤ 16777472 := by
 have s0 : 0 ≤ a0 * a0 := by have := B_ (x := a0) (y := a0) (A := 0) (B := 0); exact (by rcases Int.lt_or_le a0 0 with h | h; · { have := Int.mul_nonneg (show 0 ≤ -a0 by omega) (show 0 ≤ -a0 by omega); rwa [Int.neg_mul_neg] at this }; · exact Int.mul_nonneg h h)
 have sq : ∀ x : Int, 0 ≤ x * x := fun x => by
  rcases Int.lt_or_le x 0 with h | h
  · have := Int.mul_nonneg (show 0 ≤ -x by omega) (show 0 ≤ -x by omega); rwa [Int.neg_mul_neg] at this
  · exact Int.mul_nonneg h h
 have s1 := sq a1; have s2 := sq a2; have s3 := sq a3
 have e1 : (R + 1) * (R + 1) = R * R + 2 * R + 1 := by grind
 have e6 : (R + 6) * (R + 6) = R * R + 12 * R + 36 := by grind
 have b0 := l_ (a := a0) (R := R) (K := 6) (by omega) (by omega) (by omega); have b1 := l_ (a := a1) (R := R) (K := 6) (by omega) (by omega) (by omega); have b2 := l_ (a := a2) (R := R) (K := 6) (by omega) (by omega) (by omega); have b3 := l_ (a := a3) (R := R) (K := 6) (by omega) (by omega) (by omega); obtain ⟨E0, p0, l0, g0⟩ := BV (by omega) b0 h0; obtain ⟨E1, p1, l1, g1⟩ := BV (by omega) b1 h1; obtain ⟨E2, p2, l2, g2⟩ := BV (by omega) b2 h2; obtain ⟨E3, p3, l3, g3⟩ := BV (by omega) b3 h3
 have eT : (u0 * u0 + u1 * u1 + u2 * u2 + u3 * u3) * (R * R) = (a0 * a0 + a1 * a1 + a2 * a2 + a3 * a3) * 281474976710656 + (E0 + E1 + E2 + E3) := by
  rw [Int.add_mul, Int.add_mul, Int.add_mul, p0, p1, p2, p3]; omega
 have e5 : (R + 5) * R = R * R + 5 * R := by grind
 rw [e5] at l0 g0 l1 g1 l2 g2 l3 g3; have hP : 4194296 * R ≤ R * R := Int.mul_le_mul_of_nonneg_right hR (by omega); generalize u0 * u0 + u1 * u1 + u2 * u2 + u3 * u3 = T at *; generalize a0 * a0 + a1 * a1 + a2 * a2 + a3 * a3 = S at *; rw [e1] at hR1; clear p0 p1 p2 p3 e1 e5 e6 b0 b1 b2 b3 h0 h1 h2 h3
 have hi : T ≤ 281474976710656 + 254 * 16777216 := by
  rcases Int.lt_or_le (281474976710656 + 254 * 16777216) T with h | h
  · have := Int.mul_le_mul_of_nonneg_right (show 281474976710656 + 254 * 16777216 ≤ T by omega) (sq R)
    rw [eT] at this; generalize R * R = P at *; omega
  · exact h
 have lo : 281474976710656 - 254 * 16777216 ≤ T := by
  rcases Int.lt_or_le T (281474976710656 - 254 * 16777216) with h | h
  · have := Int.mul_le_mul_of_nonneg_right (show T ≤ 281474976710656 - 254 * 16777216 by omega) (sq R)
    rw [eT] at this; generalize R * R = P at *; omega
  · exact h
 omega
end Go.Proofs.YtcfobekkchhbbaaGreat.PQ

namespace Go.Proofs.YtcfobekkchhbbaaGreat.PQ
set_option linter.unusedVariables false
set_option linter.unusedSimpArgs false
theorem Zh {X : Int} (h0 : 0 ≤ X) (h1 : X ≤ 73786976294838206464) : 0 ≤ lw X ∧ lw X ≤ 4398046511104 ∧ lw X * 16777216 - X ≤ 8388608 ∧ -8388608 ≤ lw X * 16777216 - X := by
 unfold lw
 simp only []
 repeat' split
 all_goals omega
theorem JH {l : Int} {s : Bool} (h0 : 0 ≤ l) (h1 : l ≤ 4398046511104) : sg 0 l s = (if s = true then -l else l, false) := by
 unfold sg
 rw [if_pos rfl, if_neg (by omega)]
 cases s
 · simp only [Bool.false_eq_true, if_false]
   rw [rX (by omega) (by omega), xE (by omega) (by omega)]
 · simp only [if_true]
   rw [rX (by omega) (by omega), xE (by omega) (by omega)]
theorem Zg {N y : Int} (h0 : 0 ≤ N) (h1 : N ≤ 1152921504606846976) (hy : 0 < y) : 0 ≤ rn N y ∧ rn N y ≤ N / y + 1 ∧ (N - rn N y * y) * 2 ≤ y ∧ -y ≤ (N - rn N y * y) * 2 := by
 have e := Int.ediv_mul_add_emod N y; have r0 := Int.emod_nonneg N (show y ≠ 0 by omega); have r1 := Int.emod_lt_of_pos N hy; have q0 : 0 ≤ N / y := Int.ediv_nonneg h0 (by omega); have q1 := Int.ediv_le_self (a := N) y h0
 have hw : (N / y + 1) % 18446744073709551616 = N / y + 1 := by omega
 unfold rn
 rw [hw]
 have hm : (N / y + 1) * y = N / y * y + y := by rw [Int.add_mul]; omega
 repeat' split
 all_goals (try rw [hm])
 all_goals omega
theorem TG (a b : Int) : sz a * sz b = if ((decide (a < 0)) != (decide (b < 0))) = true then -(a * b) else a * b := by
 unfold sz
 by_cases ha : a < 0 <;> by_cases hb : b < 0 <;> simp [ha, hb, Int.neg_mul, Int.mul_neg]
theorem rQ {a b : Int} (ha : mQ a) (hb : mQ b) (h : sz a * sz b ≤ 73786976294838206464) :
 qY a b = false ∧ -8388608 ≤ jY a b * 16777216 - a * b ∧ jY a b * 16777216 - a * b ≤ 8388608 ∧ -4398046511104 ≤ jY a b ∧ jY a b ≤ 4398046511104 := by
 have h0 : 0 ≤ sz a * sz b := Int.mul_nonneg (Qm a) (Qm b); have hn := Zh h0 h; have hms := TG a b
 have e : mulR a b = (if ((decide (a < 0)) != (decide (b < 0))) = true then -lw (sz a * sz b) else lw (sz a * sz b), false) := by
  unfold mulR
  rw [rX ha.1 ha.2, rX hb.1 hb.2, xE ha.1 ha.2, xE hb.1 hb.2, show sz a * sz b / 309485009821345068724781056 = 0 by omega, JH hn.1 hn.2.1]; rfl
 unfold qY jY
 rw [e]; generalize lw (sz a * sz b) = L at *; generalize sz a * sz b = X at *; generalize a * b = Y at *; refine ⟨rfl, ?_⟩
 by_cases hs : ((decide (a < 0)) != (decide (b < 0))) = true
 · rw [if_pos hs] at hms
   rw [if_pos hs]; dsimp only; omega
 · rw [if_neg hs] at hms
   rw [if_neg hs]; dsimp only; omega
theorem yV {a R : Int} (hR : 4194296 ≤ R) (hR1 : R ≤ 34359738368) (ha : -(R + 6) < a) (ha' : a < R + 6) :
 divO a R = false ∧ -R ≤ 2 * (divV a R * R - a * 16777216) ∧ 2 * (divV a R * R - a * 16777216) ≤ R ∧ -33554432 ≤ divV a R ∧ divV a R ≤ 33554432 := by
 have hca : cl a = a := rX (by omega) (by omega); have hcb : cl R = R := rX (by omega) (by omega); have hoa : od a = false := xE (by omega) (by omega); have hob : od R = false := xE (by omega) (by omega)
 have sR : sz R = R := by unfold sz; rw [if_neg (by omega)]
 have sa : 0 ≤ sz a ∧ sz a < R + 6 := by unfold sz; split <;> omega
 have hn := Zg (N := sz a * 16777216) (y := R) (by omega) (by omega) (by omega)
 have hq : sz a * 16777216 / R ≤ 33554431 := by
  have : sz a * 16777216 < (33554432 : Int) * R := by omega
  have := Int.ediv_lt_of_lt_mul (a := sz a * 16777216) (b := 33554432) (c := R) (by omega) this; omega
 have e : A_ a R = (if ((decide (a < 0)) != (decide (R < 0))) = true then -rn (sz a * 16777216) R else rn (sz a * 16777216) R, false) := by
  unfold A_
  rw [hca, hcb, hoa, hob, if_neg (by omega), sR, if_neg (by omega), JH hn.1 (by omega)]; rfl
 unfold divO divV
 rw [e]; refine ⟨rfl, ?_⟩
 have hRs : decide (R < 0) = false := decide_eq_false (by omega); rw [hRs]; generalize hr : rn (sz a * 16777216) R = r at *
 by_cases h : a < 0
 · have hsa : sz a = -a := by unfold sz; rw [if_pos h]
   rw [hsa] at hn hq
   have hs : ((decide (a < 0)) != false) = true := by simp [h]
   rw [if_pos hs]; dsimp only; rw [Int.neg_mul]; omega
 · have hsa : sz a = a := by unfold sz; rw [if_neg h]
   rw [hsa] at hn hq
   have hs : ¬ ((decide (a < 0)) != false) = true := by simp [h]
   rw [if_neg hs]; dsimp only; omega
end Go.Proofs.YtcfobekkchhbbaaGreat.PQ

namespace Go.Proofs.YtcfobekkchhbbaaGreat.PQ
open Go.RowKit Go.Proofs.af.aK Go.Proofs.af.aV Go.Proofs.af.aW
set_option linter.unusedVariables false
set_option linter.unusedSimpArgs false
abbrev b4 (a b c d : Int) : Array Value := #[.int .i8 a, .int .i8 b, .int .i8 c, .int .i8 d]
def w8 (m : Int) (p : Nat → Int) (k : Nat) : Int := Int.tmod (p k) m * 16777216
abbrev OH (a b c d n : Int) (o : Bool) : Prop := ∀ w, Calls Tryz.prog 142 #[.agg #[.int .i64 a, .int .i64 b, .int .i64 c, .int .i64 d]] w fun x w' =>
 x = .returned (.tuple #[.int .i64 n, .bool o]) ∧ Below w.heap.size w w'
theorem Ih (a b c d : Int) : OH a b c d (pX (at4 a b c d)) (uY (at4 a b c d)) := fun w => Nq (at4 a b c d) w
end Go.Proofs.YtcfobekkchhbbaaGreat.PQ

namespace Go.Proofs.YtcfobekkchhbbaaGreat.PQ
open Go.RowKit Go.Proofs.af.aK Go.Proofs.af.aV Go.Proofs.af.aW
set_option linter.unusedVariables false
set_option linter.unusedSimpArgs false
def QI (p u : Nat → Int) : Nat → Array Value
 | 0 => #[.int .i64 (p 0), .int .i64 (p 1), .int .i64 (p 2), .int .i64 (p 3)]
 | k + 1 => (QI p u k).setIfInBounds k (.int .i64 (u k))
def Pg (f : Bool) (o : Nat → Bool) : Nat → Bool
 | 0 => f
 | k + 1 => Pg f o k || o k
theorem FY (p u : Nat → Int) (o : Nat → Bool) (n R : Int) (no so : Bool) (hN : OH (p 0) (p 1) (p 2) (p 3) n no) (hS : ∀ w, Calls Tryz.prog 143 #[.int .i64 n] w (Both w R so)) (hR : R ≠ 0)
 (hD : ∀ k, k < 4 → ∀ w, Calls Tryz.prog 144 #[.int .i64 (p k), .int .i64 R] w (Both w (u k) (o k))) (w : World) :
 Calls Tryz.prog 87 #[.agg #[.int .i64 (p 0), .int .i64 (p 1), .int .i64 (p 2), .int .i64 (p 3)]] w fun e w' =>
  e = .returned (.tuple #[.agg #[.int .i64 (u 0), .int .i64 (u 1), .int .i64 (u 2), .int .i64 (u 3)], .bool (Pg ((false || no) || so) o 4)]) ∧ Below w.heap.size w w' := by
 have HN := Lib.hid hN; have HS := Lib.hid hS; have HD := Lib.hid hD
 have hR' : (R == 0) = false := by simpa using hR
 clear hN hS hD hR
 go_enter Tryz.func87, Tryz.ntmps87
 go_wp2_with fail
 refine (HN.out _).mono ?_
 rintro e w1 ⟨rfl, hb⟩; have M : Hid (aY w [(26, #[.int .i64 (p 0), .int .i64 (p 1), .int .i64 (p 2), .int .i64 (p 3)]), (26, q4 0 0 0 0), (191, #[.bool false])] w1) := Lib.hid (((((aY.none w).push (by simp) _ _).push (by simp) _ _).push (by simp) _ _).below hb); clear hb
 go_wp2_with fail
 refine (dQ _ _ _ _ _ M.out.r2).mono ?_
 rintro e w2 ⟨rfl, hg, hf⟩; have M2 : Hid (aY w [(26, #[.int .i64 (p 0), .int .i64 (p 1), .int .i64 (p 2), .int .i64 (p 3)]), (26, q4 0 0 0 0), (191, #[.bool (false || no)])] w2) := Lib.hid (M.out.grown 2 _ _ hg hf); clear hg hf M
 go_wp2_with fail
 refine (HS.out _).mono ?_
 rintro e w3 ⟨rfl, hb⟩; have M3 := Lib.hid (M2.out.below hb); clear hb M2
 go_wp2_with fail
 refine (dQ _ _ _ _ _ M3.out.r2).mono ?_
 rintro e w4 ⟨rfl, hg, hf⟩; have M4 : Hid (aY w [(26, #[.int .i64 (p 0), .int .i64 (p 1), .int .i64 (p 2), .int .i64 (p 3)]), (26, q4 0 0 0 0), (191, #[.bool ((false || no) || so)])] w4) := Lib.hid (M3.out.grown 2 _ _ hg hf); clear hg hf M3; have ca := M4.out.r0.cell
 go_wp2_with fail
 clear ca
 go_loopw [22] (fun i wr => ∃ k : Nat, k ≤ 4 ∧ i = .int .i64 k ∧ Hid (aY w [(26, QI p u k), (26, q4 0 0 0 0), (191, #[.bool (Pg ((false || no) || so) o k)])] wr)) (fun i _ => 4 - (intOf i).toNat)
 case atStart => exact ⟨0, by omega, rfl, M4⟩
 case round =>
  clear M4; obtain ⟨k, hk, rfl, M⟩ := hrel
  obtain rfl | rfl | rfl | rfl | rfl : k = 0 ∨ k = 1 ∨ k = 2 ∨ k = 3 ∨ k = 4 := by omega
  · have ix : ∀ w', (Instr.index 26 (.agg #[.int .i64 (p 0), .int .i64 (p 1), .int .i64 (p 2), .int .i64 (p 3)]) (.int .i64 0)).run Tryz.prog w' = .ok (.int .i64 (p 0)) w' := fun w' => by kernel_rfl
    go_wp2_with fail
    refine (HD.out 0 (by omega) _).mono ?_
    rintro e wa ⟨rfl, hb⟩; have MA := Lib.hid (M.out.below hb); clear hb M ix
    go_wp2_with fail
    refine (dQ _ _ _ _ _ MA.out.r2).mono ?_
    rintro e wb ⟨rfl, hg, hf⟩; have MB : Hid (aY w [(26, QI p u 0), (26, q4 0 0 0 0), (191, #[.bool (Pg ((false || no) || so) o 0 || o 0)])] wb) := Lib.hid (MA.out.grown 2 _ _ hg hf); clear hg hf MA; have co := MB.out.r0.cell 0; have fo := MB.out.r0.free 0; go_wp2
    go_roundw
    case rel => exact ⟨0 + 1, by omega, by go_num, Lib.hid (MB.out.put 0 26 _ MB.out.r0 0 (.int .i64 (u 0)))⟩
    case measure => simp [intOf]
  · have ix : ∀ w', (Instr.index 26 (.agg #[.int .i64 (p 0), .int .i64 (p 1), .int .i64 (p 2), .int .i64 (p 3)]) (.int .i64 1)).run Tryz.prog w' = .ok (.int .i64 (p 1)) w' := fun w' => by kernel_rfl
    go_wp2_with fail
    refine (HD.out 1 (by omega) _).mono ?_
    rintro e wa ⟨rfl, hb⟩; have MA := Lib.hid (M.out.below hb); clear hb M ix
    go_wp2_with fail
    refine (dQ _ _ _ _ _ MA.out.r2).mono ?_
    rintro e wb ⟨rfl, hg, hf⟩; have MB : Hid (aY w [(26, QI p u 1), (26, q4 0 0 0 0), (191, #[.bool (Pg ((false || no) || so) o 1 || o 1)])] wb) := Lib.hid (MA.out.grown 2 _ _ hg hf); clear hg hf MA; have co := MB.out.r0.cell 1; have fo := MB.out.r0.free 1; go_wp2
    go_roundw
    case rel => exact ⟨1 + 1, by omega, by go_num, Lib.hid (MB.out.put 0 26 _ MB.out.r0 1 (.int .i64 (u 1)))⟩
    case measure => simp [intOf]
  · have ix : ∀ w', (Instr.index 26 (.agg #[.int .i64 (p 0), .int .i64 (p 1), .int .i64 (p 2), .int .i64 (p 3)]) (.int .i64 2)).run Tryz.prog w' = .ok (.int .i64 (p 2)) w' := fun w' => by kernel_rfl
    go_wp2_with fail
    refine (HD.out 2 (by omega) _).mono ?_
    rintro e wa ⟨rfl, hb⟩; have MA := Lib.hid (M.out.below hb); clear hb M ix
    go_wp2_with fail
    refine (dQ _ _ _ _ _ MA.out.r2).mono ?_
    rintro e wb ⟨rfl, hg, hf⟩; have MB : Hid (aY w [(26, QI p u 2), (26, q4 0 0 0 0), (191, #[.bool (Pg ((false || no) || so) o 2 || o 2)])] wb) := Lib.hid (MA.out.grown 2 _ _ hg hf); clear hg hf MA; have co := MB.out.r0.cell 2; have fo := MB.out.r0.free 2; go_wp2
    go_roundw
    case rel => exact ⟨2 + 1, by omega, by go_num, Lib.hid (MB.out.put 0 26 _ MB.out.r0 2 (.int .i64 (u 2)))⟩
    case measure => simp [intOf]
  · have ix : ∀ w', (Instr.index 26 (.agg #[.int .i64 (p 0), .int .i64 (p 1), .int .i64 (p 2), .int .i64 (p 3)]) (.int .i64 3)).run Tryz.prog w' = .ok (.int .i64 (p 3)) w' := fun w' => by kernel_rfl
    go_wp2_with fail
    refine (HD.out 3 (by omega) _).mono ?_
    rintro e wa ⟨rfl, hb⟩; have MA := Lib.hid (M.out.below hb); clear hb M ix
    go_wp2_with fail
    refine (dQ _ _ _ _ _ MA.out.r2).mono ?_
    rintro e wb ⟨rfl, hg, hf⟩; have MB : Hid (aY w [(26, QI p u 3), (26, q4 0 0 0 0), (191, #[.bool (Pg ((false || no) || so) o 3 || o 3)])] wb) := Lib.hid (MA.out.grown 2 _ _ hg hf); clear hg hf MA; have co := MB.out.r0.cell 3; have fo := MB.out.r0.free 3; go_wp2
    go_roundw
    case rel => exact ⟨3 + 1, by omega, by go_num, Lib.hid (MB.out.put 0 26 _ MB.out.r0 3 (.int .i64 (u 3)))⟩
    case measure => simp [intOf]
  · have M5 : Hid (aY w [(26, q4 (u 0) (u 1) (u 2) (u 3)), (26, q4 0 0 0 0), (191, #[.bool (Pg ((false || no) || so) o 4)])] wr) := Lib.hid M.out
    clear M HN HS HD
    revert M5
    generalize hff : Pg ((false || no) || so) o 4 = ff; intro M5; have ca := M5.out.r0.cell; have cf := M5.out.r2.cell 0; have cb := M5.out.r1.cell; have fb := M5.out.r1.free
    have nx : w.heap.size + 1 ≠ w.heap.size := by omega
    have ny : w.heap.size + 1 ≠ w.heap.size + 1 + 1 := by omega
    have MD := Lib.hid M5.out.drew; go_wp2
    go_region_held3 (fun w' => (∀ o, w'.cell? ⟨w.heap.size, o, none⟩ = (q4 (u 0) (u 1) (u 2) (u 3))[o]?) ∧ w'.cell? ⟨w.heap.size + 1 + 1, 0, none⟩ = some (.bool ff))
     (first | with_reducible exact ⟨MD.out.r0.cell, MD.out.r2.cell 0⟩ | with_reducible exact ⟨(MD.out.r0.qx (by omega)).cell, (MD.out.r2.qx (by omega)).cell 0⟩ | go_keep) (fail)
    all_goals go_wp2
    all_goals
     have R := (M5.out.r1.jH (.int .i64 (u 0)) (.int .i64 (u 1)) (.int .i64 (u 2)) (.int .i64 (u 3))).drew; have HB := (Below.jH (B := w.heap.size + 1) M5.out.be (by omega) (.int .i64 (u 0)) (.int .i64 (u 1)) (.int .i64 (u 2)) (.int .i64 (u 3))).drew; clear M5 MD ca cf cb fb nx ny
     revert R HB
     generalize World.drew _ = wf; intro R HB; refine bodyPost_ret (v := .tuple #[.agg #[.int .i64 (u 0), .int .i64 (u 1), .int .i64 (u 2), .int .i64 (u 3)], .bool ff]) ?_ rfl ⟨by rw [hff], HB⟩
     have r0 := R.cell 0; have r1 := R.cell 1; have r2 := R.cell 2; have r3 := R.cell 3
     simp at r0 r1 r2 r3
     simp [results, Tryz.f87, Tryz.results87, go_sem, r0, r1, r2, r3]
theorem Qg (p : Nat → Int) (n : Int) (no so : Bool) (hN : OH (p 0) (p 1) (p 2) (p 3) n no) (hS : ∀ w, Calls Tryz.prog 143 #[.int .i64 n] w (Both w 0 so)) (w : World) :
 Calls Tryz.prog 87 #[.agg #[.int .i64 (p 0), .int .i64 (p 1), .int .i64 (p 2), .int .i64 (p 3)]] w fun e w' =>
  e = .returned (.tuple #[.agg #[.int .i64 16777216, .int .i64 0, .int .i64 0, .int .i64 0], .bool true]) ∧ Below w.heap.size w w' := by
 have HN := Lib.hid hN; have HS := Lib.hid hS; clear hN hS
 go_enter Tryz.func87, Tryz.ntmps87
 go_wp2_with fail
 refine (HN.out _).mono ?_
 rintro e w1 ⟨rfl, hb⟩; have M : Hid (aY w [(26, #[.int .i64 (p 0), .int .i64 (p 1), .int .i64 (p 2), .int .i64 (p 3)]), (26, q4 0 0 0 0), (191, #[.bool false])] w1) := Lib.hid (((((aY.none w).push (by simp) _ _).push (by simp) _ _).push (by simp) _ _).below hb); clear hb
 go_wp2_with fail
 refine (dQ _ _ _ _ _ M.out.r2).mono ?_
 rintro e w2 ⟨rfl, hg, hf⟩; have M2 : Hid (aY w [(26, #[.int .i64 (p 0), .int .i64 (p 1), .int .i64 (p 2), .int .i64 (p 3)]), (26, q4 0 0 0 0), (191, #[.bool (false || no)])] w2) := Lib.hid (M.out.grown 2 _ _ hg hf); clear hg hf M
 go_wp2_with fail
 refine (HS.out _).mono ?_
 rintro e w3 ⟨rfl, hb⟩; have M3 := Lib.hid (M2.out.below hb); clear hb M2
 go_wp2_with fail
 refine (dQ _ _ _ _ _ M3.out.r2).mono ?_
 rintro e w4 ⟨rfl, hg, hf⟩; have M4 : Hid (aY w [(26, #[.int .i64 (p 0), .int .i64 (p 1), .int .i64 (p 2), .int .i64 (p 3)]), (26, q4 0 0 0 0), (191, #[.bool ((false || no) || so)])] w4) := Lib.hid (M3.out.grown 2 _ _ hg hf); clear hg hf M3; have cb := M4.out.r1.cell; have fb := M4.out.r1.free; go_wp2
 have R := M4.out.r1.jH (.int .i64 16777216) (.int .i64 0) (.int .i64 0) (.int .i64 0); have HB := Below.jH (B := w.heap.size + 1) M4.out.be (by omega) (.int .i64 16777216) (.int .i64 0) (.int .i64 0) (.int .i64 0); clear M4 cb fb
 revert R HB
 generalize World.setCell (World.setCell (World.setCell (World.setCell w4 _ _) _ _) _ _) _ _ = wf; intro R HB; refine bodyPost_ret (v := .tuple #[.agg #[.int .i64 16777216, .int .i64 0, .int .i64 0, .int .i64 0], .bool true]) ?_ rfl ⟨rfl, HB⟩
 have r0 := R.cell 0; have r1 := R.cell 1; have r2 := R.cell 2; have r3 := R.cell 3
 simp at r0 r1 r2 r3
 simp [results, Tryz.f87, Tryz.results87, go_sem, r0, r1, r2, r3]
end Go.Proofs.YtcfobekkchhbbaaGreat.PQ

namespace Go.Proofs.YtcfobekkchhbbaaGreat.PQ
open Go.RowKit Go.Proofs.af.aK Go.Proofs.af.aV Go.Proofs.af.aW
set_option linter.unusedVariables false
set_option linter.unusedSimpArgs false
abbrev aan (a R : Int) (o : Bool) : Prop := ∀ w, Calls Tryz.prog 143 #[.int .i64 a] w (Both w R o)
theorem JJ (a : Int) : ∃ R o, aan a R o ∧ mQ R ∧ (0 ≤ a → a ≤ 70368744177663 → 0 ≤ R ∧ R ≤ 34359738368 ∧ R * R ≤ a * 16777216 ∧ a * 16777216 < (R + 1) * (R + 1) ∧ o = false) := by
 have c0 := uq a; have c1 := uu a
 by_cases h : cl a < 0
 · have hf : dn.f 0 a = some (0, true) := by
    unfold dn.f
    rw [qQ]; simp only [Option.bind_some]; rw [if_pos h]
   refine ⟨0, true, fun w => dn.calls 0 a _ _ w hf, by decide, fun h0 h1 => ?_⟩
   rw [rX (by omega) h1] at h; omega
 · by_cases hi : 0 ≤ a ∧ a ≤ 70368744177663
   · obtain ⟨R, hE, hR0, hR1, hR2, hR3⟩ := YZ a hi.1 hi.2
     obtain ⟨k, hk⟩ := hE.rounds; refine ⟨R, false, fun w => dn.calls k a _ _ w hk, by unfold mQ; omega, fun h0 h1 => ⟨hR0, ?_, hR2, hR3, rfl⟩⟩
     rcases Int.lt_or_le R 34359738369 with hl | hl
     · omega
     · have := lC (x := R) (y := 34359738369) (by omega) hl
       omega
   · have hN : cl a / 1099511627776 * 18446744073709551616 + cl a * 16777216 % 18446744073709551616 = cl a * 16777216 := by omega
     obtain ⟨R, hE, hR0, hR1, _⟩ := F9 (od a) (cl a / 1099511627776) (cl a * 16777216 % 18446744073709551616) (by omega) (by omega) (by omega) 36 0 (by omega) (by omega) (by decide) (by decide) (by omega)
      (by rw [hN, show ((0 : Int) + 2 ^ 36) * (0 + 2 ^ 36) = 4722366482869645213696 by decide]; omega)
     obtain ⟨k, hk⟩ := hE.rounds
     have hf : dn.f k a = some (R, od a) := by
      unfold dn.f
      rw [qQ]; simp only [Option.bind_some]; rw [if_neg h, dF, dF, Int.emod_eq_of_lt (b := 18446744073709551616) (by omega) (by omega)]; exact hk
     exact ⟨R, od a, fun w => dn.calls k a _ _ w hf, by unfold mQ; omega, fun h0 h1 => absurd ⟨h0, h1⟩ hi⟩
end Go.Proofs.YtcfobekkchhbbaaGreat.PQ

namespace Go.Proofs.YtcfobekkchhbbaaGreat.PQ
open Go.RowKit
set_option linter.unusedVariables false
set_option linter.unusedSimpArgs false
theorem sgB (h l : Int) (s : Bool) : mQ (sg h l s).1 := by
 have h : ∀ (x : Int) (b : Bool), mQ ((cl x, b) : Int × Bool).1 := fun x _ => ⟨uq x, uu x⟩
 unfold sg
 repeat' split
 all_goals exact h _ _
theorem Xt (a b : Int) : mQ (A_ a b).1 := by
 unfold A_
 repeat' split
 all_goals first | exact sgB _ _ _ | (simp [mQ]; done)
theorem SS {a b c d : Int} (ha : mQ a) (hb : mQ b) (hc : mQ c) (hd : mQ d) : fC (at4 a b c d) 4 = true := by
 have e : fC (at4 a b c d) 4 = ((((true && inB a) && inB b) && inB c) && inB d) := rfl; rw [e]
 unfold mQ at *
 simp [inB]
 omega
theorem abj {x B : Int} (hB : 0 ≤ B) (h0 : -B ≤ x) (h1 : x ≤ B) : sz x * sz x ≤ B * B := by
 have : 0 ≤ sz x ∧ sz x ≤ B := by unfold sz; split <;> omega
 exact Int.mul_le_mul this.2 this.2 this.1 hB
theorem zL {a b c d : Int} (ha : -8589934592 ≤ a ∧ a ≤ 8589934592) (hb : -8589934592 ≤ b ∧ b ≤ 8589934592) (hc : -8589934592 ≤ c ∧ c ≤ 8589934592) (hd : -8589934592 ≤ d ∧ d ≤ 8589934592) :
 uY (at4 a b c d) = false ∧ a * a + b * b + c * c + d * d - 33554432 ≤ pX (at4 a b c d) * 16777216 ∧ pX (at4 a b c d) * 16777216 ≤ a * a + b * b + c * c + d * d + 33554432 ∧ pX (at4 a b c d) ≤ 70368744177663 := by
 have S : ∀ x, -8589934592 ≤ x ∧ x ≤ 8589934592 → sz x * sz x ≤ 73786976294838206464 := fun x hx => abj (B := 8589934592) (by decide) hx.1 hx.2
 have I : ∀ x : Int, -8589934592 ≤ x ∧ x ≤ 8589934592 → mQ x := fun x hx => by unfold mQ; omega
 have na := rQ (I a ha) (I a ha) (S a ha); have nb := rQ (I b hb) (I b hb) (S b hb); have nc := rQ (I c hc) (I c hc) (S c hc); have nd := rQ (I d hd) (I d hd) (S d hd); have e : pX (at4 a b c d) = uO (at3 (jY b b) (jY c c) (jY d d)) (jY a a) 3 := rfl; have o : uY (at4 a b c d) = Fg (at3 (jY b b) (jY c c) (jY d d)) (((((false || qY a a) || qY b b) || qY c c)) || qY d d) (jY a a) 3 := rfl; rw [na.1, nb.1, nc.1, nd.1] at o; generalize jY a a = x0 at *; generalize jY b b = x1 at *; generalize jY c c = x2 at *; generalize jY d d = x3 at *; have s := Qn (x0 := x0) (x1 := x1) (x2 := x2) (x3 := x3) (by unfold mQ; omega) (by unfold mQ; omega) (by unfold mQ; omega) (by unfold mQ; omega) (by unfold mQ; omega) (by unfold mQ; omega) (by unfold mQ; omega); rw [e, o, s.1, s.2]; generalize a * a = A at *; generalize b * b = B at *; generalize c * c = C at *; generalize d * d = D at *; exact ⟨rfl, by omega, by omega, by omega⟩
abbrev v_ (a b c d u0 u1 u2 u3 : Int) (f : Bool) : Prop := ∀ w, Calls Tryz.prog 87 #[.agg #[.int .i64 a, .int .i64 b, .int .i64 c, .int .i64 d]] w fun e w' =>
 e = .returned (.tuple #[.agg #[.int .i64 u0, .int .i64 u1, .int .i64 u2, .int .i64 u3], .bool f]) ∧ Below w.heap.size w w'
theorem F7 (a b c d : Int) : ∃ u0 u1 u2 u3 f, v_ a b c d u0 u1 u2 u3 f ∧ fC (at4 u0 u1 u2 u3) 4 = true ∧
 ((-8589934592 ≤ a ∧ a ≤ 8589934592) → (-8589934592 ≤ b ∧ b ≤ 8589934592) → (-8589934592 ≤ c ∧ c ≤ 8589934592) → (-8589934592 ≤ d ∧ d ≤ 8589934592) →
   ((4194304 ≤ a ∨ a ≤ -4194304) ∨ (4194304 ≤ b ∨ b ≤ -4194304) ∨ (4194304 ≤ c ∨ c ≤ -4194304) ∨ (4194304 ≤ d ∨ d ≤ -4194304)) →
   f = false ∧ 16776960 ≤ pX (at4 u0 u1 u2 u3) ∧ pX (at4 u0 u1 u2 u3) ≤ 16777472) := by
 obtain ⟨R, so, hS, hRI, hRs⟩ := JJ (pX (at4 a b c d))
 by_cases hR : R = 0
 · subst hR
   refine ⟨16777216, 0, 0, 0, true, fun w => Qg (at4 a b c d) _ _ so (Ih a b c d) hS w, by decide +kernel, fun ha hb hc hd hs => ?_⟩
   obtain ⟨ho, h0, h1, h2⟩ := zL ha hb hc hd
   have sq : ∀ x : Int, 0 ≤ x * x := fun x => by
    rcases Int.lt_or_le x 0 with h | h
    · have := Int.mul_nonneg (show 0 ≤ -x by omega) (show 0 ≤ -x by omega); rwa [Int.neg_mul_neg] at this
    · exact Int.mul_nonneg h h
   have big : ∀ x : Int, (4194304 ≤ x ∨ x ≤ -4194304) → 17592186044416 ≤ x * x := fun x hx => by
    rcases hx with hx | hx
    · exact lC (x := x) (y := 4194304) (by decide) hx
    · have := lC (x := -x) (y := 4194304) (by decide) (by omega); rwa [Int.neg_mul_neg] at this
   have s0 := sq a; have s1 := sq b; have s2 := sq c; have s3 := sq d
   have hbig : 17592186044416 ≤ a * a + b * b + c * c + d * d := by
    rcases hs with h | h | h | h
    · have := big a h; omega
    · have := big b h; omega
    · have := big c h; omega
    · have := big d h; omega
   have := hRs (by omega) h2; omega
 · refine ⟨divV a R, divV b R, divV c R, divV d R, _, fun w => FY (at4 a b c d) (fun k => divV (at4 a b c d k) R) (fun k => divO (at4 a b c d k) R) _ R _ so (Ih a b c d) hS hR (fun k _ w => xg _ _ w) w,
    SS (Xt _ _) (Xt _ _) (Xt _ _) (Xt _ _), fun ha hb hc hd hs => ?_⟩
   obtain ⟨ho, h0, h1, h2⟩ := zL ha hb hc hd
   have sq : ∀ x : Int, 0 ≤ x * x := fun x => by
    rcases Int.lt_or_le x 0 with h | h
    · have := Int.mul_nonneg (show 0 ≤ -x by omega) (show 0 ≤ -x by omega); rwa [Int.neg_mul_neg] at this
    · exact Int.mul_nonneg h h
   have big : ∀ x : Int, (4194304 ≤ x ∨ x ≤ -4194304) → 17592186044416 ≤ x * x := fun x hx => by
    rcases hx with hx | hx
    · exact lC (x := x) (y := 4194304) (by decide) hx
    · have := lC (x := -x) (y := 4194304) (by decide) (by omega); rwa [Int.neg_mul_neg] at this
   have s0 := sq a; have s1 := sq b; have s2 := sq c; have s3 := sq d
   have hbig : 17592186044416 ≤ a * a + b * b + c * c + d * d := by
    rcases hs with h | h | h | h
    · have := big a h; omega
    · have := big b h; omega
    · have := big c h; omega
    · have := big d h; omega
   obtain ⟨r0, r1, r2, r3, r4⟩ := hRs (by omega) h2
   have hRb : 4194296 ≤ R := by
    rcases Int.lt_or_le R 4194296 with hl | hl
    · have := lC (x := 4194296) (y := R + 1) (by omega) (by omega)
      omega
    · exact hl
   have e1 : (R + 1) * (R + 1) = R * R + 2 * R + 1 := by grind
   have e6 : (R + 6) * (R + 6) = R * R + 12 * R + 36 := by grind
   have b0 := l_ (a := a) (R := R) (K := 6) (by omega) (by omega) (by omega); have b1 := l_ (a := b) (R := R) (K := 6) (by omega) (by omega) (by omega); have b2 := l_ (a := c) (R := R) (K := 6) (by omega) (by omega) (by omega); have b3 := l_ (a := d) (R := R) (K := 6) (by omega) (by omega) (by omega); have d0 := yV hRb r1 b0.1 b0.2; have d1 := yV hRb r1 b1.1 b1.2; have d2 := yV hRb r1 b2.1 b2.2; have d3 := yV hRb r1 b3.1 b3.2; have hm := zL (a := divV a R) (b := divV b R) (c := divV c R) (d := divV d R) (by omega) (by omega) (by omega) (by omega); refine ⟨?_, LH h0 h1 hRb r2 r3 ⟨d0.2.1, d0.2.2.1⟩ ⟨d1.2.1, d1.2.2.1⟩ ⟨d2.2.1, d2.2.2.1⟩ ⟨d3.2.1, d3.2.2.1⟩ hm.2.1 hm.2.2.1⟩
   show ((((((false || uY (at4 a b c d)) || so) || divO a R) || divO b R) || divO c R) || divO d R) = false; rw [ho, r4, d0.1, d1.1, d2.1, d3.1]; rfl
end Go.Proofs.YtcfobekkchhbbaaGreat.PQ

namespace Go.Proofs.YtcfobekkchhbbaaGreat.PQ
open Go.RowKit Go.Proofs.af.aK Go.Proofs.af.aV Go.Proofs.af.aW
set_option linter.unusedVariables false
set_option linter.unusedSimpArgs false
def Yg (x : Nat → Int) : Nat → Array Value
 | 0 => #[.int .i64 16777216, .int .i64 0, .int .i64 0, .int .i64 0]
 | k + 1 => (Yg x k).setIfInBounds (k + 1) (.int .i64 (x k))
theorem Row.flag {w : World} {F : Nat} {b : Bool} (h : Row w F 191 #[.bool b]) : w.cell? ⟨F, 0, none⟩ = some (.bool b) := h.cell 0
theorem Dc (v x : Nat → Int) (o : Nat → Bool) (b h u0 u1 u2 u3 : Int) (f : Bool) (hH : ∀ w, Calls Tryz.prog 135 #[.int .i64 b, .int .i64 1] w fun e w' => e = .returned (.int .i64 h) ∧ Below w.heap.size w w')
 (hM : ∀ k, k < 3 → ∀ w, Calls Tryz.prog 92 #[.int .i64 (v k), .int .i64 h] w (Both w (x k) (o k))) (hU : v_ 16777216 (x 0) (x 1) (x 2) u0 u1 u2 u3 f) (w : World) :
 Calls Tryz.prog 84 #[.agg #[.int .i64 (v 0), .int .i64 (v 1), .int .i64 (v 2)], .int .i64 b] w fun e w' =>
  e = .returned (.tuple #[.agg #[.int .i64 u0, .int .i64 u1, .int .i64 u2, .int .i64 u3], .bool (f || Pg false o 3)]) ∧ Below w.heap.size w w' := by
 have HH := Lib.hid hH; have HM := Lib.hid hM; have HU := Lib.hid hU; clear hH hM hU
 go_enter Tryz.func84, Tryz.ntmps84
 go_wp2_with fail
 refine (HH.out _).mono ?_
 rintro e w1 ⟨rfl, hb⟩; have M : Hid (aY w [(53, #[.int .i64 (v 0), .int .i64 (v 1), .int .i64 (v 2)]), (26, q4 0 0 0 0), (191, #[.bool false])] w1) := Lib.hid (((((aY.none w).push (by simp) _ _).push (by simp) _ _).push (by simp) _ _).below hb); clear hb; have ca := M.out.r0.cell; have la := M.out.r0.lt
 go_wp2_with fail
 go_loopw [17] (fun i wr => ∃ k : Nat, k ≤ 3 ∧ i = .int .i64 k ∧ Hid (aY w [(53, #[.int .i64 (v 0), .int .i64 (v 1), .int .i64 (v 2)]), (26, q4 0 0 0 0), (191, #[.bool (Pg false o k)])] wr) ∧ Hid (Row wr w1.heap.size 26 (Yg x k))) (fun i _ => 3 - (intOf i).toNat)
 case atStart => exact ⟨0, by omega, rfl, Lib.hid (M.out.alloc _), Lib.hid (Row.new w1 26 _)⟩
 case round =>
  clear ca; have lM := M.out.r2.lt; clear M; obtain ⟨k, hk, rfl, N, Q⟩ := hrel
  obtain rfl | rfl | rfl | rfl : k = 0 ∨ k = 1 ∨ k = 2 ∨ k = 3 := by omega
  · have ix : ∀ w', (Instr.index 53 (.agg #[.int .i64 (v 0), .int .i64 (v 1), .int .i64 (v 2)]) (.int .i64 0)).run Tryz.prog w' = .ok (.int .i64 (v 0)) w' := fun w' => by kernel_rfl
    go_wp2_with fail
    refine (HM.out 0 (by omega) _).mono ?_
    rintro e wa ⟨rfl, hb⟩; have NA := Lib.hid (N.out.below hb); have QA := Lib.hid (Q.out.below hb Q.out.lt); clear hb N Q ix
    go_wp2_with fail
    refine (dQ _ _ _ _ _ NA.out.r2).mono ?_
    rintro e wb ⟨rfl, hg, hf⟩; have NB := Lib.hid (NA.out.grown 2 _ _ hg hf); have QB := Lib.hid (QA.out.grown hg (by simp; omega)); clear hg hf NA QA; have co := QB.out.cell 1; have fo := QB.out.free 1; go_wp2
    go_roundw
    case rel => exact ⟨0 + 1, by omega, by go_num, Lib.hid ⟨NB.out.rows.imp fun k t cs h1 h2 r => r.far (p := ⟨w1.heap.size, 1, none⟩) (by simp at h2 ⊢; omega) _, NB.out.be.setCell (p := ⟨w1.heap.size, 1, none⟩) (by simp; omega) _⟩, Lib.hid (QB.out.set 1 _)⟩
    case measure => simp [intOf]
  · have ix : ∀ w', (Instr.index 53 (.agg #[.int .i64 (v 0), .int .i64 (v 1), .int .i64 (v 2)]) (.int .i64 1)).run Tryz.prog w' = .ok (.int .i64 (v 1)) w' := fun w' => by kernel_rfl
    go_wp2_with fail
    refine (HM.out 1 (by omega) _).mono ?_
    rintro e wa ⟨rfl, hb⟩; have NA := Lib.hid (N.out.below hb); have QA := Lib.hid (Q.out.below hb Q.out.lt); clear hb N Q ix
    go_wp2_with fail
    refine (dQ _ _ _ _ _ NA.out.r2).mono ?_
    rintro e wb ⟨rfl, hg, hf⟩; have NB := Lib.hid (NA.out.grown 2 _ _ hg hf); have QB := Lib.hid (QA.out.grown hg (by simp; omega)); clear hg hf NA QA; have co := QB.out.cell 2; have fo := QB.out.free 2; go_wp2
    go_roundw
    case rel => exact ⟨1 + 1, by omega, by go_num, Lib.hid ⟨NB.out.rows.imp fun k t cs h1 h2 r => r.far (p := ⟨w1.heap.size, 2, none⟩) (by simp at h2 ⊢; omega) _, NB.out.be.setCell (p := ⟨w1.heap.size, 2, none⟩) (by simp; omega) _⟩, Lib.hid (QB.out.set 2 _)⟩
    case measure => simp [intOf]
  · have ix : ∀ w', (Instr.index 53 (.agg #[.int .i64 (v 0), .int .i64 (v 1), .int .i64 (v 2)]) (.int .i64 2)).run Tryz.prog w' = .ok (.int .i64 (v 2)) w' := fun w' => by kernel_rfl
    go_wp2_with fail
    refine (HM.out 2 (by omega) _).mono ?_
    rintro e wa ⟨rfl, hb⟩; have NA := Lib.hid (N.out.below hb); have QA := Lib.hid (Q.out.below hb Q.out.lt); clear hb N Q ix
    go_wp2_with fail
    refine (dQ _ _ _ _ _ NA.out.r2).mono ?_
    rintro e wb ⟨rfl, hg, hf⟩; have NB := Lib.hid (NA.out.grown 2 _ _ hg hf); have QB := Lib.hid (QA.out.grown hg (by simp; omega)); clear hg hf NA QA; have co := QB.out.cell 3; have fo := QB.out.free 3; go_wp2
    go_roundw
    case rel => exact ⟨2 + 1, by omega, by go_num, Lib.hid ⟨NB.out.rows.imp fun k t cs h1 h2 r => r.far (p := ⟨w1.heap.size, 3, none⟩) (by simp at h2 ⊢; omega) _, NB.out.be.setCell (p := ⟨w1.heap.size, 3, none⟩) (by simp; omega) _⟩, Lib.hid (QB.out.set 3 _)⟩
    case measure => simp [intOf]
  · have Q5 : Hid (Row wr w1.heap.size 26 (q4 16777216 (x 0) (x 1) (x 2))) := Lib.hid Q.out
    have cq := Q5.out.cell
    go_wp2_with fail
    refine (HU.out _).mono ?_
    rintro e w5 ⟨rfl, hb⟩; have N5 := Lib.hid (N.out.below hb); clear hb cq Q Q5 N
    go_wp2_with fail
    have l5 := N5.out.r2.lt; have cb := (N5.out.alloc (.cells (q4 u0 u1 u2 u3) 26)).r1.cell; have fb := (N5.out.alloc (.cells (q4 u0 u1 u2 u3) 26)).r1.free; have N6 := Lib.hid (N5.out.alloc (.cells (q4 u0 u1 u2 u3) 26)); have U6 := Lib.hid (Row.new w5 26 (q4 u0 u1 u2 u3)); have N7 := Lib.hid N6.out.drew; have U7 := Lib.hid U6.out.drew
    have nx : w.heap.size + 1 ≠ w5.heap.size := by omega
    have ny : w.heap.size + 1 ≠ w.heap.size + 1 + 1 := by omega
    clear N5 HH HM HU; generalize hgg : Pg false o 3 = g at *; have HG := Lib.hid hgg; clear hgg
    cases f
    · go_region_held3 (fun w' => (∀ o, w'.cell? ⟨w5.heap.size, o, none⟩ = (q4 u0 u1 u2 u3)[o]?) ∧ w'.cell? ⟨w.heap.size + 1 + 1, 0, none⟩ = some (.bool g)) (first | with_reducible exact ⟨U7.out.cell, N7.out.r2.flag⟩ | with_reducible exact ⟨(U7.out.qx (by omega)).cell, (N7.out.r2.qx (by omega)).flag⟩ | with_reducible exact ⟨(U6.out.qx (by omega)).drew.cell, (N6.out.r2.qx (by omega)).drew.flag⟩ | go_keep) (fail)
      all_goals go_wp2
      all_goals
       have R := (N6.out.r1.jH (.int .i64 u0) (.int .i64 u1) (.int .i64 u2) (.int .i64 u3)).drew; have HB := (Below.jH (B := w.heap.size + 1) N6.out.be (by omega) (.int .i64 u0) (.int .i64 u1) (.int .i64 u2) (.int .i64 u3)).drew; clear N6 N7 U6 U7 cb fb nx ny l5
       revert R HB
       first
       | generalize World.drew _ = wf
       | generalize World.setCell (World.setCell (World.setCell (World.setCell _ _ _) _ _) _ _) _ _ = wf
       intro R HB; have r0 := R.cell 0; have r1 := R.cell 1; have r2 := R.cell 2; have r3 := R.cell 3
       simp at r0 r1 r2 r3
       refine bodyPost_ret (v := .tuple #[.agg #[.int .i64 u0, .int .i64 u1, .int .i64 u2, .int .i64 u3], .bool g]) ?_ rfl ⟨by rw [HG.out], HB⟩
       simp [results, Tryz.f84, Tryz.results84, go_sem, r0, r1, r2, r3]
    · have u0c := U7.out.cell
      have n2c := N7.out.r2.flag
      go_region
      all_goals go_wp2
      all_goals
       have R := (N6.out.r1.jH (.int .i64 u0) (.int .i64 u1) (.int .i64 u2) (.int .i64 u3)).drew; have HB := (Below.jH (B := w.heap.size + 1) N6.out.be (by omega) (.int .i64 u0) (.int .i64 u1) (.int .i64 u2) (.int .i64 u3)).drew; clear N6 N7 U6 U7 cb fb nx ny l5
       revert R HB
       first
       | generalize World.drew _ = wf
       | generalize World.setCell (World.setCell (World.setCell (World.setCell _ _ _) _ _) _ _) _ _ = wf
       intro R HB; have r0 := R.cell 0; have r1 := R.cell 1; have r2 := R.cell 2; have r3 := R.cell 3
       simp at r0 r1 r2 r3
       refine bodyPost_ret (v := .tuple #[.agg #[.int .i64 u0, .int .i64 u1, .int .i64 u2, .int .i64 u3], .bool true]) ?_ rfl ⟨rfl, HB⟩
       simp [results, Tryz.f84, Tryz.results84, go_sem, r0, r1, r2, r3]
end Go.Proofs.YtcfobekkchhbbaaGreat.PQ

namespace Go.Proofs.YtcfobekkchhbbaaGreat.PQ
open Go.RowKit Go.Proofs.af.aK Go.Proofs.af.aV Go.Proofs.af.aW
set_option linter.unusedVariables false
set_option linter.unusedSimpArgs false
theorem Un (a : Int) : ∃ h, iP.f a 1 = some h ∧ (h = a / 2 ∨ h = wrap64 (a / 2 + 1)) := by
 have e : mn (mx 1 0) 62 = 1 := rfl; have e2 : a / 2 ^ (1 : Int).toNat = a / 2 := rfl
 unfold iP.f
 rw [e, e2, if_pos (by omega), if_pos (by omega)]
 repeat' split
 all_goals exact ⟨_, rfl, by simp⟩
theorem QX : iP.f 0 1 = some 0 := by decide +kernel
theorem Xo (a : Int) : ∃ h, (∀ w, Calls Tryz.prog 135 #[.int .i64 a, .int .i64 1] w fun e w' => e = .returned (.int .i64 h) ∧ Below w.heap.size w w') ∧ (a = 0 → h = 0) ∧ (-268435456 ≤ a → a ≤ 268435456 → -134217729 ≤ h ∧ h ≤ 134217729) := by
 obtain ⟨h, hf, hx⟩ := Un a; refine ⟨h, fun w => iP.calls a 1 h w hf, fun e => ?_, fun h0 h1 => ?_⟩
 · subst e
   rw [QX] at hf
   injection hf with hf
   exact hf.symm
 · rcases hx with rfl | rfl
   · omega
   · rw [FW (by omega) (by omega)]; omega
abbrev CU (v : Nat → Int) (b u0 u1 u2 u3 : Int) (F : Bool) : Prop := ∀ w, Calls Tryz.prog 84 #[.agg #[.int .i64 (v 0), .int .i64 (v 1), .int .i64 (v 2)], .int .i64 b] w fun e w' =>
 e = .returned (.tuple #[.agg #[.int .i64 u0, .int .i64 u1, .int .i64 u2, .int .i64 u3], .bool F]) ∧ Below w.heap.size w w'
theorem Sz : v_ 16777216 0 0 0 16777216 0 0 0 false := by
 obtain ⟨R, so, hS, hRI, hRs⟩ := JJ (pX (at4 16777216 0 0 0))
 have hn : pX (at4 16777216 0 0 0) = 16777216 := by decide +kernel
 have ho : uY (at4 16777216 0 0 0) = false := by decide +kernel
 obtain ⟨r0, r1, r2, r3, r4⟩ := hRs (by omega) (by omega); rw [hn] at r2 r3
 have hR : R = 16777216 := by
  rcases Int.lt_trichotomy R 16777216 with h | h | h
  · have := lC (x := 16777216) (y := R + 1) (by omega) (by omega); omega
  · exact h
  · have := lC (x := R) (y := 16777217) (by omega) (by omega); omega
 subst hR
 have d0 : divV 16777216 16777216 = 16777216 := by decide +kernel
 have d1 : divV 0 16777216 = 0 := by decide +kernel
 have o0 : divO 16777216 16777216 = false := by decide +kernel
 have o1 : divO 0 16777216 = false := by decide +kernel
 intro w; have h := FY (at4 16777216 0 0 0) (fun k => divV (at4 16777216 0 0 0 k) 16777216) (fun k => divO (at4 16777216 0 0 0 k) 16777216) _ 16777216 _ so (Ih 16777216 0 0 0) hS (by decide) (fun k _ w => xg _ _ w) w; have e0 : divV (at4 16777216 0 0 0 0) 16777216 = 16777216 := d0; have e1 : divV (at4 16777216 0 0 0 1) 16777216 = 0 := d1; have e2 : divV (at4 16777216 0 0 0 2) 16777216 = 0 := d1; have e3 : divV (at4 16777216 0 0 0 3) 16777216 = 0 := d1; rw [e0, e1, e2, e3] at h
 have ef : Pg ((false || uY (at4 16777216 0 0 0)) || so) (fun k => divO (at4 16777216 0 0 0 k) 16777216) 4 = false := by
  show ((((((false || uY (at4 16777216 0 0 0)) || so) || divO 16777216 16777216) || divO 0 16777216) || divO 0 16777216) || divO 0 16777216) = false; rw [ho, r4, o0, o1]; rfl
 rw [ef] at h; exact h
theorem zM {a : Int} (ha : mQ a) : jY a 0 = 0 ∧ qY a 0 = false := by
 have h := rQ ha (by unfold mQ; omega : mQ 0) (by simp [sz]); rw [Int.mul_zero] at h; exact ⟨by have := h.2.1; have := h.2.2.1; omega, h.1⟩
theorem Qq (v : Nat → Int) (b : Int) : ∃ u0 u1 u2 u3 F, CU v b u0 u1 u2 u3 F ∧ (b = 0 → mQ (v 0) → mQ (v 1) → mQ (v 2) → u0 = 16777216 ∧ u1 = 0 ∧ u2 = 0 ∧ u3 = 0 ∧ F = false) ∧
 ((-268435456 ≤ v 0 ∧ v 0 ≤ 268435456) → (-268435456 ≤ v 1 ∧ v 1 ≤ 268435456) → (-268435456 ≤ v 2 ∧ v 2 ≤ 268435456) → (-268435456 ≤ b ∧ b ≤ 268435456) →
   F = false ∧ 16776960 ≤ pX (at4 u0 u1 u2 u3) ∧ pX (at4 u0 u1 u2 u3) ≤ 16777472) := by
 obtain ⟨h, hH, hz, hs⟩ := Xo b
 have hM : ∀ k, k < 3 → ∀ w, Calls Tryz.prog 92 #[.int .i64 (v k), .int .i64 h] w (Both w ((fun k => jY (v k) h) k) ((fun k => qY (v k) h) k)) := fun k _ w => gJ _ _ w
 by_cases hb : b = 0 ∧ mQ (v 0) ∧ mQ (v 1) ∧ mQ (v 2)
 · obtain ⟨rfl, i0, i1, i2⟩ := hb
   obtain rfl := hz rfl; have m0 := zM i0; have m1 := zM i1; have m2 := zM i2
   have hU : v_ 16777216 ((fun k => jY (v k) 0) 0) ((fun k => jY (v k) 0) 1) ((fun k => jY (v k) 0) 2) 16777216 0 0 0 false := by
    show v_ 16777216 (jY (v 0) 0) (jY (v 1) 0) (jY (v 2) 0) 16777216 0 0 0 false; rw [m0.1, m1.1, m2.1]; exact Sz
   have ef : (false || Pg false (fun k => qY (v k) 0) 3) = false := by
    show (false || (((false || qY (v 0) 0) || qY (v 1) 0) || qY (v 2) 0)) = false; rw [m0.2, m1.2, m2.2]; rfl
   refine ⟨16777216, 0, 0, 0, false, fun w => ?_, fun _ _ _ _ => ⟨rfl, rfl, rfl, rfl, rfl⟩, fun _ _ _ _ => ⟨rfl, by decide +kernel, by decide +kernel⟩⟩
   have hw := Dc v _ _ 0 0 16777216 0 0 0 false hH hM hU w; rw [ef] at hw; exact hw
 · obtain ⟨u0, u1, u2, u3, f, hU, hr, hm⟩ := F7 16777216 (jY (v 0) h) (jY (v 1) h) (jY (v 2) h)
   refine ⟨u0, u1, u2, u3, _, fun w => Dc v _ _ b h u0 u1 u2 u3 f hH hM hU w, fun e i0 i1 i2 => absurd ⟨e, i0, i1, i2⟩ hb, fun b0 b1 b2 bb => ?_⟩
   have hh := hs bb.1 bb.2
   have near : ∀ x, -268435456 ≤ x ∧ x ≤ 268435456 → qY x h = false ∧ -8589934592 ≤ jY x h ∧ jY x h ≤ 8589934592 := by
    intro x hx
    have hsz : sz x * sz h ≤ 73786976294838206464 := by
     have h1 : 0 ≤ sz x ∧ sz x ≤ 8589934592 := by unfold sz; split <;> omega
     have h2 : 0 ≤ sz h ∧ sz h ≤ 8589934592 := by unfold sz; split <;> omega
     have := Int.mul_le_mul h1.2 h2.2 h2.1 (by omega : (0 : Int) ≤ 8589934592); omega
    have hn := rQ (a := x) (b := h) (by unfold mQ; omega) (by unfold mQ; omega) hsz; have hp := B_ (x := x) (y := h) (A := 268435456) (B := 134217729) (by omega) (by omega) (by omega) (by omega) (by omega); refine ⟨hn.1, ?_, ?_⟩ <;> omega
   have n0 := near _ b0; have n1 := near _ b1; have n2 := near _ b2; obtain ⟨hf, hm0, hm1⟩ := hm (by omega) n0.2 n1.2 n2.2 (.inl (by omega)); refine ⟨?_, hm0, hm1⟩
   show (f || (((false || qY (v 0) h) || qY (v 1) h) || qY (v 2) h)) = false; rw [hf, n0.1, n1.1, n2.1]; rfl
end Go.Proofs.YtcfobekkchhbbaaGreat.PQ

