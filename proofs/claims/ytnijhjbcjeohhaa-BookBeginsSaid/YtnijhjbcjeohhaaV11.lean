import Derived.Test.YtnijhjbcjeohhaaV10
import Derived.Deep.RegionHeld3
import Derived.Test.YtnijhjbcjeohhaaV9
import Derived.Test.YtnijhjbcjeohhaaV8
import Derived.Maps.AppendAt
import Derived.OrdersHeld
import Derived.Test.YtnijhjbcjeohhaaV4
import Derived.WalkKit
import Derived.Below
import Derived.Deep.MidRow
import Derived.Lib.Hide
import Derived.ChangeKeysEq
import Derived.RangeFuncNested
import Derived.RangeFuncBound
import Derived.RangeFuncCalls
import Derived.RangeFuncLeaves
import Derived.OwnWalkIn
import Derived.TacticsInMore
import Derived.Maps.OwnIn
import Derived.RangeFuncBox
/- Joined and thinned by a program of this session's own (wip/pack2.py) out of its texts (wip/ of its repo); parts were laid by its own program (wip/print-patch.py over the kit's print) out of the translation; Lean checks all. -/
set_option maxRecDepth 100000
set_option maxHeartbeats 4000000
namespace Go.Proofs.Ytnijhjbcjeohhaa.EE
open Go.RowKit Go.Proofs.Ytnijhjbcjeohhaa.KK Go.Proofs.af.aA Go.Proofs.af.aN Go.Proofs.af.aP
set_option linter.unusedVariables false
set_option linter.unusedSimpArgs false
theorem wp_build {P : Program} {op : Oper} {a : Act} {w : World} {K : Act → World → Prop} {Q : Exit → Act → World → Prop} (t : TypeId) (parts : Array (Nat × Operand)) (ho : op.op = .build t parts) (ps : Array (Nat × Value)) (hp : (parts.map fun (i, x) => (i, a.eval x)) = ps) (v : Value)
 (hr : (Instr.build t ps).run P w = .ok v w) (h : K (a.put op.dst v) w) : op.wp P a w K Q := by
 unfold Oper.wp execOp
 simp only [ho, hp, Sem.run_bind, Sem.run_pure, Result.andThen_ok, hr]
 exact h
theorem wpList_build {P : Program} {ops : Array Oper} {rest : List Oper} {op : Oper} {a : Act} {w : World} {Q : Exit → Act → World → Prop} (hgd : op.guard = none) (t : TypeId) (parts : Array (Nat × Operand)) (ho : op.op = .build t parts) (ps : Array (Nat × Value)) (hp : (parts.map fun (i, x) => (i, a.eval x)) = ps) (v : Value)
 (hr : (Instr.build t ps).run P w = .ok v w) (h : wpList P ops Q rest (a.put op.dst v) w) : wpList P ops Q (op :: rest) a w :=
 wpList_plain hgd fun _ hK => wp_build t parts ho ps hp v hr (hK _ _ h)
theorem Below.DF {w w1 w2 : World} {g : Nat} (h : Below w.heap.size w w1) (hg : w1.grownBy w2 (some g)) (hn : w.heap.size ≤ g) : Below w.heap.size w w2 :=
 ⟨hg.os.trans h.os, hg.tape.trans h.tape, hg.output.trans h.output, Nat.le_trans h.size hg.size, fun k hk => (hg.block k (Nat.lt_of_lt_of_le hk h.size) (fun e => by injection e with e; omega)).trans (h.block k hk)⟩
def Cf.R (c : Cf) : Array Value := c.row
def Es.R (e : Es) : Array Value := e.row
def Sm.R (s : Sm) : Array Value := s.row
def Es.IW (e' : Es) : Array Value := ([I 3, I 1, .slice e'.t0.A e'.t0.x.length e'.t0.c, I 3, I 3, .slice e'.t0.B e'.t0.p.length e'.t0.d, I 3, I 1, .slice e'.t1.A e'.t1.x.length e'.t1.c, I 3, I 3, .slice e'.t1.B e'.t1.p.length e'.t1.d, I 3, I 1, .slice e'.t2.A e'.t2.x.length e'.t2.c, I 3, I 3, .slice e'.t2.B e'.t2.p.length e'.t2.d] : List Value).toArray
theorem wQ {w : World} {A : Option Addr} {l : List Int} (h : Rd w A l) (hl : l.length = 3) : ∃ b o, A = some ⟨b, o, none⟩ ∧ b < w.heap.size ∧ w.cell? ⟨b, o, none⟩ = some (I (l.getD 0 0)) := by
 obtain ⟨b, o, rfl, hb, hc⟩ := Rd.cells h (by omega)
 refine ⟨b, o, rfl, hb, ?_⟩
 have := hc 0 (l.getD 0 0) (by
  match l, hl with
  | [_, _, _], _ => rfl)
 simpa using this
theorem Row.there {w : World} {b : Nat} {t : TypeId} {C : Array Value} (h : Row w b t C) : w.there b 0 C.size := fun j hj => by
 refine ⟨?_, h.free _⟩
 rw [h.cell]
 simp [hj]
theorem yL {P : Program} {fn : Func} {p p' : Tmp} {ty ty' : TypeId} (h : fn.results = #[.cell p ty, .cell p' ty']) (tmps : Array Value) (w : World) (g g' : Nat) (cs cs' : List Value) (d d' : TypeDesc)
 (hp : tmps.getD p undef = .pointer (some ⟨g, 0, none⟩)) (hg : w.rangeAt g 0 cs) (hu : P.underlying ty = some d) (hd : d.isRow = true) (hi : (P.info? ty).map (·.size) = some cs.length)
 (hp' : tmps.getD p' undef = .pointer (some ⟨g', 0, none⟩)) (hg' : w.rangeAt g' 0 cs') (hu' : P.underlying ty' = some d') (hd' : d'.isRow = true) (hi' : (P.info? ty').map (·.size) = some cs'.length) :
 (results fn tmps).run P w = .ok (.tuple #[.agg cs.toArray, .agg cs'.toArray]) w := by
 have h1 : tmps[p]?.getD undef = .pointer (some ⟨g, 0, none⟩) := by simpa using hp
 have h2 : tmps[p']?.getD undef = .pointer (some ⟨g', 0, none⟩) := by simpa using hp'
 simp [results, h, h1, h2, asAddr, run_loadVar_mid w g 0 ty cs d hg hu hd hi, run_loadVar_mid w g' 0 ty' cs' d' hg' hu' hd' hi']
theorem row_one (e' : Es) : ∀ v ∈ e'.R.toList, v.oneCell' = true := List.all_eq_true.mp (by kernel_rfl : e'.R.toList.all (·.oneCell') = true)
theorem iH {B : Nat} : ∀ (vs : List Value) (o : Nat) (w : World), w.grownBy (w.setCells B o vs) (some B) := by
 intro vs
 induction vs with
 | nil => intro o w; exact dP _ _
 | cons v vs ih => intro o w; exact a_ (bF (dP _ _) _ _) (ih (o + 1) _)
theorem Rg.cells {o' : Prop} {g : Nat} {w : World} {A : Option Addr} {l : List Int} (h : Rg o' g w A l) {B o : Nat} {vs : List Value} (hB : B + 2 = g ∨ B + 1 = g) : Rg o' g (w.setCells B o vs) A l := ⟨Rd.gr h.rd (iH vs o w) (fun ad e => by rcases h.nr ad e with ⟨_, h⟩ | h <;> omega), h.nr⟩
theorem Rx.cells {o' : Prop} {g : Nat} {w : World} {t : Tr} (h : Rx o' g w t) {B o : Nat} {vs : List Value} (hB : B + 2 = g ∨ B + 1 = g) : Rx o' g (w.setCells B o vs) t := ⟨h.x.cells hB, h.xc, h.p.cells hB, h.pd⟩
theorem _root_.Go.Proofs.Ytnijhjbcjeohhaa.KK.aS.set {w0 w : World} {L : List (TypeId × Array Value)} (h : aS w0 L w) {p : Addr} (hp : w0.heap.size + L.length ≤ p.block) (u : Value) : aS w0 L (w.setCell p u) :=
 ⟨h.rows.imp fun k t cs _ hk r => r.far (by omega) u, h.be.setCell (by omega) u⟩
def SS (c : Cf) (e : Es) (s : Sm) (a0 a1 a2 : Int) : Array Value := wk c e s a0 a1 a2
theorem Us (c : Cf) (e' : Es) (s : Sm) (a0 a1 a2 : Int) : ((wk c e' s a0 a1 a2).extract 10 (10 + e'.IW.toList.length)).toList = e'.IW.toList := by kernel_rfl
theorem Ur (c : Cf) (e' : Es) (s : Sm) (a0 a1 a2 : Int) : ((wk c e' s a0 a1 a2).extract 6 (6 + e'.R.toList.length)).toList = e'.R.toList := by kernel_rfl
theorem YS (e' : Es) (b o : Nat) (hA : (e'.ax 0).A = some ⟨b, o, none⟩) (hl : (e'.ax 0).x.length = 3) : ∀ w', (Instr.index 34 (.agg e'.IW) (.int .i64 0)).run Try.prog w' = .ok (.agg #[I 3, I 1, .slice (some ⟨b, o, none⟩) 3 e'.t0.c, I 3, I 3, .slice e'.t0.B e'.t0.p.length e'.t0.d]) w' := fun w' => by
 have h : (Instr.index 34 (.agg e'.IW) (.int .i64 0)).run Try.prog w' = .ok (.agg #[I 3, I 1, .slice e'.t0.A e'.t0.x.length e'.t0.c, I 3, I 3, .slice e'.t0.B e'.t0.p.length e'.t0.d]) w' := by kernel_rfl
 rw [h]
 change e'.t0.A = _ at hA
 change e'.t0.x.length = 3 at hl
 rw [hA, hl]
theorem YR (e' : Es) (b o : Nat) (hA : (e'.ax 1).A = some ⟨b, o, none⟩) (hl : (e'.ax 1).x.length = 3) : ∀ w', (Instr.index 34 (.agg e'.IW) (.int .i64 1)).run Try.prog w' = .ok (.agg #[I 3, I 1, .slice (some ⟨b, o, none⟩) 3 e'.t1.c, I 3, I 3, .slice e'.t1.B e'.t1.p.length e'.t1.d]) w' := fun w' => by
 have h : (Instr.index 34 (.agg e'.IW) (.int .i64 1)).run Try.prog w' = .ok (.agg #[I 3, I 1, .slice e'.t1.A e'.t1.x.length e'.t1.c, I 3, I 3, .slice e'.t1.B e'.t1.p.length e'.t1.d]) w' := by kernel_rfl
 rw [h]
 change e'.t1.A = _ at hA
 change e'.t1.x.length = 3 at hl
 rw [hA, hl]
theorem YQ (e' : Es) (b o : Nat) (hA : (e'.ax 2).A = some ⟨b, o, none⟩) (hl : (e'.ax 2).x.length = 3) : ∀ w', (Instr.index 34 (.agg e'.IW) (.int .i64 2)).run Try.prog w' = .ok (.agg #[I 3, I 1, .slice (some ⟨b, o, none⟩) 3 e'.t2.c, I 3, I 3, .slice e'.t2.B e'.t2.p.length e'.t2.d]) w' := fun w' => by
 have h : (Instr.index 34 (.agg e'.IW) (.int .i64 2)).run Try.prog w' = .ok (.agg #[I 3, I 1, .slice e'.t2.A e'.t2.x.length e'.t2.c, I 3, I 3, .slice e'.t2.B e'.t2.p.length e'.t2.d]) w' := by kernel_rfl
 rw [h]
 change e'.t2.A = _ at hA
 change e'.t2.x.length = 3 at hl
 rw [hA, hl]
theorem J9 (c : Cf) (e : Es) (s : Sm) (w : World) (Q : Nat → World → Prop) (E : Es → Prop) (g : Nat) (hg : g = w.heap.size + 5)
 (h0 : ∀ w', Row w' g 89 (wk c e s 0 0 0) → Below w.heap.size w w' → Q 0 w')
 (h1 : ∀ w', Q 0 w' → Calls Try.prog 37 #[.pointer (some ⟨g, 0, none⟩)] w' fun x w'' => x = .returned (.tuple #[]) ∧ Q 1 w'' ∧ w'.grownBy w'' (some g))
 (h2 : ∀ w', Q 1 w' → Calls Try.prog 38 #[.pointer (some ⟨g, 0, none⟩)] w' fun x w'' => x = .returned (.tuple #[]) ∧ Q 2 w'' ∧ w'.grownBy w'' (some g))
 (h3 : ∀ w', Q 2 w' → Calls Try.prog 39 #[.pointer (some ⟨g, 0, none⟩)] w' fun x w'' => x = .returned (.tuple #[]) ∧ Q 3 w'' ∧ w'.grownBy w'' (some g))
 (h4 : ∀ w', Q 3 w' → Calls Try.prog 40 #[.pointer (some ⟨g, 0, none⟩)] w' fun x w'' => x = .returned (.tuple #[]) ∧ Q 4 w'' ∧ w'.grownBy w'' (some g))
 (h5 : ∀ w', Q 4 w' → ∃ (e' : Es) (a0 a1 a2 : Int), E e' ∧ Row w' g 89 (wk c e' s a0 a1 a2) ∧ Ok False g w' e' ∧ ∀ j, j < 3 → (e'.ax j).x.length = 3) :
 Calls Try.prog 16 #[.agg c.R, .agg e.R, .agg s.R] w fun x w' => ∃ e' : Es, E e' ∧ x = .returned (.tuple #[.agg e'.row, .agg #[I (e'.t0.x.getD 0 0), I (e'.t1.x.getD 0 0), I (e'.t2.x.getD 0 0)]]) ∧ (∀ j, j < 3 → Rx False g w' (e'.ax j)) ∧ Below w.heap.size w w' := by
 have H0 := Lib.hid h0
 have H1 := Lib.hid h1
 have H2 := Lib.hid h2
 have H3 := Lib.hid h3
 have H4 := Lib.hid h4
 have H5 := Lib.hid h5
 have HG := Lib.hid hg
 clear h0 h1 h2 h3 h4 h5 hg
 go_enter Try.func16, Try.ntmps16
 go_upto_region 1 with fail
 have L : Hid (aS w [(24, c.R), (37, e.R), (46, s.R), (37, #[.int .i64 0, .int .i64 0, .int .i64 0, .int .i64 0, .int .i64 0, .int .i64 0, .slice none 0 0, .int .i64 0, .int .i64 0, .slice none 0 0, .int .i64 0, .int .i64 0, .slice none 0 0, .int .i64 0, .int .i64 0, .slice none 0 0, .int .i64 0, .int .i64 0, .slice none 0 0, .int .i64 0, .int .i64 0, .slice none 0 0, .int .i64 0, .int .i64 0, .int .i64 0, .int .i64 0, .int .i64 0, .int .i64 0, .bool false]), (42, #[.int .i64 0, .int .i64 0, .int .i64 0])] (((((w.alloc (.cells c.R 24)).alloc (.cells e.R 37)).alloc (.cells s.R 46)).alloc (.cells #[.int .i64 0, .int .i64 0, .int .i64 0, .int .i64 0, .int .i64 0, .int .i64 0, .slice none 0 0, .int .i64 0, .int .i64 0, .slice none 0 0, .int .i64 0, .int .i64 0, .slice none 0 0, .int .i64 0, .int .i64 0, .slice none 0 0, .int .i64 0, .int .i64 0, .slice none 0 0, .int .i64 0, .int .i64 0, .slice none 0 0, .int .i64 0, .int .i64 0, .int .i64 0, .int .i64 0, .int .i64 0, .int .i64 0, .bool false] 37)).alloc (.cells #[.int .i64 0, .int .i64 0, .int .i64 0] 42))) := Lib.hid ((((((aS.none w).push (by simp) _ _).push (by simp) _ _).push (by simp) _ _).push (by simp) _ _).push (by simp) _ _)
 have LZ : Hid ((((((w.alloc (.cells c.R 24)).alloc (.cells e.R 37)).alloc (.cells s.R 46)).alloc (.cells #[.int .i64 0, .int .i64 0, .int .i64 0, .int .i64 0, .int .i64 0, .int .i64 0, .slice none 0 0, .int .i64 0, .int .i64 0, .slice none 0 0, .int .i64 0, .int .i64 0, .slice none 0 0, .int .i64 0, .int .i64 0, .slice none 0 0, .int .i64 0, .int .i64 0, .slice none 0 0, .int .i64 0, .int .i64 0, .slice none 0 0, .int .i64 0, .int .i64 0, .int .i64 0, .int .i64 0, .int .i64 0, .int .i64 0, .bool false] 37)).alloc (.cells #[.int .i64 0, .int .i64 0, .int .i64 0] 42)).heap.size = w.heap.size + 1 + 1 + 1 + 1 + 1) := Lib.hid (by simp)
 generalize (((((w.alloc (.cells c.R 24)).alloc (.cells e.R 37)).alloc (.cells s.R 46)).alloc (.cells #[.int .i64 0, .int .i64 0, .int .i64 0, .int .i64 0, .int .i64 0, .int .i64 0, .slice none 0 0, .int .i64 0, .int .i64 0, .slice none 0 0, .int .i64 0, .int .i64 0, .slice none 0 0, .int .i64 0, .int .i64 0, .slice none 0 0, .int .i64 0, .int .i64 0, .slice none 0 0, .int .i64 0, .int .i64 0, .slice none 0 0, .int .i64 0, .int .i64 0, .int .i64 0, .int .i64 0, .int .i64 0, .int .i64 0, .bool false] 37)).alloc (.cells #[.int .i64 0, .int .i64 0, .int .i64 0] 42)) = w5 at L LZ ⊢
 have R0 : Hid (w5.rangeAt w.heap.size 0 c.R.toList) := Lib.hid (Row.range L.out.r0 0 _ (by simp [Cf.R]))
 have R1 : Hid (w5.rangeAt (w.heap.size + 1) 0 e.R.toList) := Lib.hid (Row.range L.out.r1 0 _ (by simp [Es.R]))
 have R2 : Hid (w5.rangeAt (w.heap.size + 1 + 1) 0 s.R.toList) := Lib.hid (Row.range L.out.r2 0 _ (by simp [Sm.R]))
 have i24 := Lib.hid (show (Try.prog.info? 24).map (·.size) = some c.R.toList.length by kernel_rfl)
 have i37 := Lib.hid (show (Try.prog.info? 37).map (·.size) = some e.R.toList.length by kernel_rfl)
 have i46 := Lib.hid (show (Try.prog.info? 46).map (·.size) = some s.R.toList.length by kernel_rfl)
 have ZV : Hid (∀ w', (Instr.build 89 #[(0, .agg c.R), (1, .agg e.R), (2, .agg s.R)]).run Try.prog w' = .ok (.agg (SS c e s 0 0 0)) w') := Lib.hid (fun w' => by kernel_rfl)
 go_wp2_with (first
  | (with_reducible refine wpList_build rfl 89 #[(0, .tmp 14), (1, .tmp 15), (2, .tmp 16)] rfl #[(0, .agg c.R), (1, .agg e.R), (2, .agg s.R)] (by kernel_rfl) _ (ZV.out _) ?_)
  | (with_reducible refine wpList_load_mid rfl 24 (.tmp 3) rfl w.heap.size 0 rfl c.R.toList _ R0.out Try.underlying24 rfl i24.out ?_)
  | (with_reducible refine wpList_load_mid rfl 37 (.tmp 4) rfl (w.heap.size + 1) 0 rfl e.R.toList _ R1.out Try.underlying37 rfl i37.out ?_)
  | (with_reducible refine wpList_load_mid rfl 46 (.tmp 5) rfl (w.heap.size + 1 + 1) 0 rfl s.R.toList _ R2.out Try.underlying46 rfl i46.out ?_))
 have hg : g = w5.heap.size := HG.out.trans LZ.out.symm
 have R6 : Hid (Row (w5.alloc (.cells (SS c e s 0 0 0) 89)) g 89 (wk c e s 0 0 0)) := Lib.hid (by rw [hg]; exact Row.new w5 89 (SS c e s 0 0 0))
 have TE : Hid (Row (w5.alloc (.cells (SS c e s 0 0 0) 89)) (w.heap.size + 1 + 1 + 1) 37 #[.int .i64 0, .int .i64 0, .int .i64 0, .int .i64 0, .int .i64 0, .int .i64 0, .slice none 0 0, .int .i64 0, .int .i64 0, .slice none 0 0, .int .i64 0, .int .i64 0, .slice none 0 0, .int .i64 0, .int .i64 0, .slice none 0 0, .int .i64 0, .int .i64 0, .slice none 0 0, .int .i64 0, .int .i64 0, .slice none 0 0, .int .i64 0, .int .i64 0, .int .i64 0, .int .i64 0, .int .i64 0, .int .i64 0, .bool false]) := Lib.hid (L.out.r3.alloc _)
 have TV : Hid (Row (w5.alloc (.cells (SS c e s 0 0 0) 89)) (w.heap.size + 1 + 1 + 1 + 1) 42 #[.int .i64 0, .int .i64 0, .int .i64 0]) := Lib.hid (L.out.r4.alloc _)
 have BE : Hid (Below w.heap.size w (w5.alloc (.cells (SS c e s 0 0 0) 89))) := Lib.hid (L.out.be.alloc L.out.be.size _)
 have Z6 : Hid ((w5.alloc (.cells (SS c e s 0 0 0) 89)).heap.size = g + 1) := Lib.hid (by rw [hg]; simp)
 have NG : Hid (w.heap.size + 1 + 1 + 1 ≠ g ∧ w.heap.size + 1 + 1 + 1 + 1 ≠ g ∧ g + 1 ≠ g ∧ w.heap.size ≤ g) := Lib.hid (by have := HG.out; omega)
 rw [← hg]
 have GG : Hid (w.heap.size + 1 + 1 + 1 + 2 = g ∧ w.heap.size + 1 + 1 + 1 + 1 + 1 = g) := Lib.hid (by have := HG.out; omega)
 clear L LZ R0 R1 R2 i24 i37 i46 ZV hg HG
 generalize w5.alloc (.cells (SS c e s 0 0 0) 89) = w6 at R6 TE TV BE Z6 ⊢
 have Q0 := Lib.hid (H0.out _ (R6.out.alloc (.cells #[.func (.func 37) #[.pointer (some ⟨g, 0, none⟩)] #[], .func (.func 38) #[.pointer (some ⟨g, 0, none⟩)] #[], .func (.func 39) #[.pointer (some ⟨g, 0, none⟩)] #[], .func (.func 40) #[.pointer (some ⟨g, 0, none⟩)] #[]] 1)) (BE.out.alloc BE.out.size (.cells #[.func (.func 37) #[.pointer (some ⟨g, 0, none⟩)] #[], .func (.func 38) #[.pointer (some ⟨g, 0, none⟩)] #[], .func (.func 39) #[.pointer (some ⟨g, 0, none⟩)] #[], .func (.func 40) #[.pointer (some ⟨g, 0, none⟩)] #[]] 1)))
 have S0 : Hid (Row (w6.alloc (.cells #[.func (.func 37) #[.pointer (some ⟨g, 0, none⟩)] #[], .func (.func 38) #[.pointer (some ⟨g, 0, none⟩)] #[], .func (.func 39) #[.pointer (some ⟨g, 0, none⟩)] #[], .func (.func 40) #[.pointer (some ⟨g, 0, none⟩)] #[]] 1)) (w.heap.size + 1 + 1 + 1) 37 #[.int .i64 0, .int .i64 0, .int .i64 0, .int .i64 0, .int .i64 0, .int .i64 0, .slice none 0 0, .int .i64 0, .int .i64 0, .slice none 0 0, .int .i64 0, .int .i64 0, .slice none 0 0, .int .i64 0, .int .i64 0, .slice none 0 0, .int .i64 0, .int .i64 0, .slice none 0 0, .int .i64 0, .int .i64 0, .slice none 0 0, .int .i64 0, .int .i64 0, .int .i64 0, .int .i64 0, .int .i64 0, .int .i64 0, .bool false] ∧ Row (w6.alloc (.cells #[.func (.func 37) #[.pointer (some ⟨g, 0, none⟩)] #[], .func (.func 38) #[.pointer (some ⟨g, 0, none⟩)] #[], .func (.func 39) #[.pointer (some ⟨g, 0, none⟩)] #[], .func (.func 40) #[.pointer (some ⟨g, 0, none⟩)] #[]] 1)) (w.heap.size + 1 + 1 + 1 + 1) 42 #[.int .i64 0, .int .i64 0, .int .i64 0] ∧ Row (w6.alloc (.cells #[.func (.func 37) #[.pointer (some ⟨g, 0, none⟩)] #[], .func (.func 38) #[.pointer (some ⟨g, 0, none⟩)] #[], .func (.func 39) #[.pointer (some ⟨g, 0, none⟩)] #[], .func (.func 40) #[.pointer (some ⟨g, 0, none⟩)] #[]] 1)) (g + 1) 1 #[.func (.func 37) #[.pointer (some ⟨g, 0, none⟩)] #[], .func (.func 38) #[.pointer (some ⟨g, 0, none⟩)] #[], .func (.func 39) #[.pointer (some ⟨g, 0, none⟩)] #[], .func (.func 40) #[.pointer (some ⟨g, 0, none⟩)] #[]] ∧ Below w.heap.size w (w6.alloc (.cells #[.func (.func 37) #[.pointer (some ⟨g, 0, none⟩)] #[], .func (.func 38) #[.pointer (some ⟨g, 0, none⟩)] #[], .func (.func 39) #[.pointer (some ⟨g, 0, none⟩)] #[], .func (.func 40) #[.pointer (some ⟨g, 0, none⟩)] #[]] 1))) :=
  Lib.hid ⟨TE.out.alloc _, TV.out.alloc _, by rw [← Z6.out]; exact Row.new _ _ _, BE.out.alloc BE.out.size _⟩
 clear R6 TE TV BE Z6 H0
 generalize w6.alloc (.cells #[.func (.func 37) #[.pointer (some ⟨g, 0, none⟩)] #[], .func (.func 38) #[.pointer (some ⟨g, 0, none⟩)] #[], .func (.func 39) #[.pointer (some ⟨g, 0, none⟩)] #[], .func (.func 40) #[.pointer (some ⟨g, 0, none⟩)] #[]] 1) = w7 at Q0 S0 ⊢
 go_loopw [29] (fun i wr => ∃ k : Nat, k ≤ 4 ∧ i = .int .i64 k ∧ Hid (Q k wr) ∧ Hid (Row wr (w.heap.size + 1 + 1 + 1) 37 #[.int .i64 0, .int .i64 0, .int .i64 0, .int .i64 0, .int .i64 0, .int .i64 0, .slice none 0 0, .int .i64 0, .int .i64 0, .slice none 0 0, .int .i64 0, .int .i64 0, .slice none 0 0, .int .i64 0, .int .i64 0, .slice none 0 0, .int .i64 0, .int .i64 0, .slice none 0 0, .int .i64 0, .int .i64 0, .slice none 0 0, .int .i64 0, .int .i64 0, .int .i64 0, .int .i64 0, .int .i64 0, .int .i64 0, .bool false] ∧ Row wr (w.heap.size + 1 + 1 + 1 + 1) 42 #[.int .i64 0, .int .i64 0, .int .i64 0] ∧ Row wr (g + 1) 1 #[.func (.func 37) #[.pointer (some ⟨g, 0, none⟩)] #[], .func (.func 38) #[.pointer (some ⟨g, 0, none⟩)] #[], .func (.func 39) #[.pointer (some ⟨g, 0, none⟩)] #[], .func (.func 40) #[.pointer (some ⟨g, 0, none⟩)] #[]] ∧ Below w.heap.size w wr)) (fun i _ => 4 - (intOf i).toNat)
 case atStart => exact ⟨0, by omega, rfl, Q0, S0⟩
 case round =>
  clear Q0 S0
  obtain ⟨k, hk, rfl, QK, SK⟩ := hrel
  have fc := SK.out.2.2.1.cell
  obtain rfl | rfl | rfl | rfl | rfl : k = 4 ∨ k = 0 ∨ k = 1 ∨ k = 2 ∨ k = 3 := by omega
  rotate_left
  · go_wp2_with fail
    refine (H1.out _ QK.out).mono ?_
    rintro x wn ⟨rfl, hq, hgr⟩
    have Q1 := Lib.hid hq
    have S1 := Lib.hid (And.intro ((PR.Row.gr SK.out.1) hgr NG.out.1) (And.intro ((PR.Row.gr SK.out.2.1) hgr NG.out.2.1) (And.intro ((PR.Row.gr SK.out.2.2.1) hgr NG.out.2.2.1) (Below.DF SK.out.2.2.2 hgr NG.out.2.2.2))))
    clear hq hgr fc QK SK
    go_wp2
    go_roundw
    case rel => exact ⟨0 + 1, by omega, by go_num, Q1, S1⟩
    case measure => simp [intOf]
  · go_wp2_with fail
    refine (H2.out _ QK.out).mono ?_
    rintro x wn ⟨rfl, hq, hgr⟩
    have Q1 := Lib.hid hq
    have S1 := Lib.hid (And.intro ((PR.Row.gr SK.out.1) hgr NG.out.1) (And.intro ((PR.Row.gr SK.out.2.1) hgr NG.out.2.1) (And.intro ((PR.Row.gr SK.out.2.2.1) hgr NG.out.2.2.1) (Below.DF SK.out.2.2.2 hgr NG.out.2.2.2))))
    clear hq hgr fc QK SK
    go_wp2
    go_roundw
    case rel => exact ⟨1 + 1, by omega, by go_num, Q1, S1⟩
    case measure => simp [intOf]
  · go_wp2_with fail
    refine (H3.out _ QK.out).mono ?_
    rintro x wn ⟨rfl, hq, hgr⟩
    have Q1 := Lib.hid hq
    have S1 := Lib.hid (And.intro ((PR.Row.gr SK.out.1) hgr NG.out.1) (And.intro ((PR.Row.gr SK.out.2.1) hgr NG.out.2.1) (And.intro ((PR.Row.gr SK.out.2.2.1) hgr NG.out.2.2.1) (Below.DF SK.out.2.2.2 hgr NG.out.2.2.2))))
    clear hq hgr fc QK SK
    go_wp2
    go_roundw
    case rel => exact ⟨2 + 1, by omega, by go_num, Q1, S1⟩
    case measure => simp [intOf]
  · go_wp2_with fail
    refine (H4.out _ QK.out).mono ?_
    rintro x wn ⟨rfl, hq, hgr⟩
    have Q1 := Lib.hid hq
    have S1 := Lib.hid (And.intro ((PR.Row.gr SK.out.1) hgr NG.out.1) (And.intro ((PR.Row.gr SK.out.2.1) hgr NG.out.2.1) (And.intro ((PR.Row.gr SK.out.2.2.1) hgr NG.out.2.2.1) (Below.DF SK.out.2.2.2 hgr NG.out.2.2.2))))
    clear hq hgr fc QK SK
    go_wp2
    go_roundw
    case rel => exact ⟨3 + 1, by omega, by go_num, Q1, S1⟩
    case measure => simp [intOf]
  clear fc
  obtain ⟨wq, hwq⟩ : ∃ wq, wq = wr := ⟨_, rfl⟩
  subst hwq
  obtain ⟨e', a0, a1, a2, EE0, RW, OK, LX⟩ := H5.out _ QK.out
  have RA := Lib.hid (Row.range RW 10 e'.IW.toList (Us c e' s a0 a1 a2))
  have RE := Lib.hid (Row.range RW 6 e'.R.toList (Ur c e' s a0 a1 a2))
  have RWH := Lib.hid RW
  have EH := Lib.hid EE0
  clear EE0
  have Zc := Lib.hid OK
  have Wh := Lib.hid LX
  clear RW OK LX H1 H2 H3 H4 H5
  obtain ⟨b0, o0, hA0, hb0, hc0⟩ := wQ (Zc.out 0 (by decide)).x.rd (Wh.out 0 (by decide))
  obtain ⟨b1, o1, hA1, hb1, hc1⟩ := wQ (Zc.out 1 (by decide)).x.rd (Wh.out 1 (by decide))
  obtain ⟨b2, o2, hA2, hb2, hc2⟩ := wQ (Zc.out 2 (by decide)).x.rd (Wh.out 2 (by decide))
  have IX0 := Lib.hid (YS e' b0 o0 hA0 (Wh.out 0 (by decide)))
  have IX1 := Lib.hid (YR e' b1 o1 hA1 (Wh.out 1 (by decide)))
  have IX2 := Lib.hid (YQ e' b2 o2 hA2 (Wh.out 2 (by decide)))
  have HB0 := Lib.hid hb0
  have HB1 := Lib.hid hb1
  have HB2 := Lib.hid hb2
  obtain ⟨z0, hz0⟩ : ∃ z, z = e'.t0.x.getD 0 0 := ⟨_, rfl⟩
  obtain ⟨z1, hz1⟩ : ∃ z, z = e'.t1.x.getD 0 0 := ⟨_, rfl⟩
  obtain ⟨z2, hz2⟩ : ∃ z, z = e'.t2.x.getD 0 0 := ⟨_, rfl⟩
  have HC0 : Hid (wq.cell? ⟨b0, o0, none⟩ = some (I z0)) := Lib.hid (hc0.trans (congrArg (fun z => some (I z)) hz0.symm))
  have HC1 : Hid (wq.cell? ⟨b1, o1, none⟩ = some (I z1)) := Lib.hid (hc1.trans (congrArg (fun z => some (I z)) hz1.symm))
  have HC2 : Hid (wq.cell? ⟨b2, o2, none⟩ = some (I z2)) := Lib.hid (hc2.trans (congrArg (fun z => some (I z)) hz2.symm))
  have HZ := Lib.hid (And.intro hz0 (And.intro hz1 hz2))
  clear hb0 hb1 hb2 hc0 hc1 hc2 hA0 hA1 hA2 hz0 hz1 hz2
  have NZ : Hid (aS wq [(42, CW 0 0 0 z0 z1 z2 0)] (wq.alloc (.cells #[.int .i64 0, .int .i64 0, .int .i64 0] 42))) := Lib.hid ((aS.none wq).push (by simp) _ _)
  have RA2 : Hid ((wq.alloc (.cells #[.int .i64 0, .int .i64 0, .int .i64 0] 42)).rangeAt g 10 e'.IW.toList) := Lib.hid (World.rangeAt_alloc RA.out _)
  have i34 := Lib.hid (show (Try.prog.info? 34).map (·.size) = some e'.IW.toList.length by kernel_rfl)
  go_wp2_with (with_reducible refine wpList_load_mid rfl 34 (.tmp 39) rfl g 10 rfl e'.IW.toList _ RA2.out Try.underlying34 rfl i34.out ?_)
  clear i34 RA2 RA
  go_loopw [41] (fun i wl => ∃ k : Nat, k ≤ 3 ∧ i = .int .i64 k ∧ Hid (aS wq [(42, CW 0 0 0 z0 z1 z2 k)] wl)) (fun i _ => 3 - (intOf i).toNat)
  case atStart => exact ⟨0, by omega, rfl, NZ⟩
  case round =>
   clear NZ
   obtain ⟨k, hk, rfl, M⟩ := hrel
   obtain rfl | rfl | rfl | rfl : k = 3 ∨ k = 0 ∨ k = 1 ∨ k = 2 := by omega
   · obtain ⟨EE, hEE⟩ : ∃ E, E = e'.R.toList := ⟨_, rfl⟩
     obtain ⟨VV, hVV⟩ : ∃ E : List Value, E = [I z0, I z1, I z2] := ⟨_, rfl⟩
     have l29 : EE.length = 29 := by rw [hEE]; rfl
     have l3 : VV.length = 3 := by rw [hVV]; rfl
     have s29 : EE.toArray.size = 29 := by simp [l29]
     have s3 : VV.toArray.size = 3 := by simp [l3]
     have f1 : wr.rangeAt g 6 EE := by
      intro j v hv
      rw [hEE] at hv
      exact (Below.cell M.out.be (p := ⟨g, 6 + j, none⟩) RWH.out.lt).trans (RE.out j v hv)
     have f2 : wr.rangeAt wq.heap.size 0 VV := by rw [hVV]; exact Row.range M.out.r0 0 _ rfl
     have f3 : wr.there (w.heap.size + 1 + 1 + 1) 0 29 := Row.there (SK.out.1.below M.out.be SK.out.1.lt)
     have f4 : wr.there (w.heap.size + 1 + 1 + 1 + 1) 0 3 := Row.there (SK.out.2.1.below M.out.be SK.out.2.1.lt)
     have u37 := Try.underlying37
     have u42 := Try.underlying42
     have i37 : (Try.prog.info? 37).map (·.size) = some EE.length := by rw [l29]; kernel_rfl
     have i42 : (Try.prog.info? 42).map (·.size) = some VV.length := by rw [l3]; kernel_rfl
     have a29 : ∀ v ∈ EE, v.oneCell' = true := by rw [hEE]; exact row_one e'
     have a3 : ∀ v ∈ VV, v.oneCell' = true := by rw [hVV]; intro v hv; simp at hv; rcases hv with rfl | rfl | rfl <;> rfl
     have dj : g ≠ w.heap.size + 1 + 1 + 1 ∧ g ≠ w.heap.size + 1 + 1 + 1 + 1 ∧ wq.heap.size ≠ w.heap.size + 1 + 1 + 1 ∧ wq.heap.size ≠ w.heap.size + 1 + 1 + 1 + 1 := by
      have := SK.out.2.1.lt
      have := NG.out
      omega
     have HF := Lib.hid (And.intro f3 f4)
     have BW : Hid (Below w.heap.size w wr) := Lib.hid (SK.out.2.2.2.trans (M.out.be.mono SK.out.2.2.2.size))
     have OKR := Lib.hid Zc.out
     have MB := Lib.hid M.out.be
     clear M SK RE RWH Zc Wh HB0 HB1 HB2 HC0 HC1 HC2 IX0 IX1 IX2 QK
     go_wp2_with fail
     refine wp_region_held_drew (S := (fun w' => w'.rangeAt g 6 EE ∧ w'.rangeAt wq.heap.size 0 VV ∧ w'.there (w.heap.size + 1 + 1 + 1) 0 29 ∧ w'.there (w.heap.size + 1 + 1 + 1 + 1) 0 3)) (by kernel_rfl) (by simp only [World.rangeAt_drew, World.there_drew]; exact ⟨f1, f2, f3, f4⟩) (fun hHeld => ?_)
     refine wpAnyH_take (i := 0) (oi := _) (v := ?v0) rfl (by kernel_rfl) (by kernel_rfl) (by kernel_rfl) (fun _ _ _ h => h) (Or.inl ⟨by rfl, ?hy0⟩) (by assumption) ?_
     case hy0 =>
      intro w' hSw
      simp only [List.getElem_toArray, List.getElem_cons_succ, List.getElem_cons_zero]
      go_simp
      (try with_reducible rfl)
     change wpAnyH _ _ _ _ _ _ _ (Act.put _ (some 53) _) _
     simp only [Act.put, List.setIfInBounds_toArray, List.set_cons_zero, List.set_cons_succ]
     refine wpAnyH_take (i := 1) (oi := _) (v := ?v1) rfl (by kernel_rfl) (by kernel_rfl) (by kernel_rfl) (fun _ _ _ h => h) (Or.inl ⟨by rfl, ?hy1⟩) (by assumption) ?_
     case hy1 =>
      intro w' hSw
      simp only [List.getElem_toArray, List.getElem_cons_succ, List.getElem_cons_zero]
      go_simp
      (try with_reducible rfl)
     change wpAnyH _ _ _ _ _ _ _ (Act.put _ (some 54) _) _
     simp only [Act.put, List.setIfInBounds_toArray, List.set_cons_zero, List.set_cons_succ]
     refine wpAnyH_take (i := 2) (oi := _) (v := ?v2) rfl (by kernel_rfl) (by kernel_rfl) (by kernel_rfl) (fun _ _ _ h => h) (Or.inl ⟨by rfl, ?hy2⟩) (by assumption) ?_
     case hy2 =>
      intro w' hSw
      simp only [List.getElem_toArray, List.getElem_cons_succ, List.getElem_cons_zero]
      go_simp
      (try with_reducible rfl)
     change wpAnyH _ _ _ _ _ _ _ (Act.put _ (some 55) _) _
     simp only [Act.put, List.setIfInBounds_toArray, List.set_cons_zero, List.set_cons_succ]
     refine wpAnyH_take (i := 3) (oi := _) (v := .agg EE.toArray) rfl (by kernel_rfl) (by kernel_rfl) (by kernel_rfl) (fun _ _ _ h => h) (yieldsIf_load_mid (by rfl) 37 (.tmp 55) rfl g 6 rfl EE _ (fun _ h => h.1) u37 rfl i37) (by assumption) ?_
     change wpAnyH _ _ _ _ _ _ _ (Act.put _ (some 56) _) _
     simp only [Act.put, List.setIfInBounds_toArray, List.set_cons_zero, List.set_cons_succ]
     refine wpAnyH_take (i := 4) (oi := _) (v := .agg VV.toArray) rfl (by kernel_rfl) (by kernel_rfl) (by kernel_rfl) (fun _ _ _ h => h) (yieldsIf_load_mid (by rfl) 42 (.tmp 11) rfl wq.heap.size 0 rfl VV _ (fun _ h => h.2.1) u42 rfl i42) (by assumption) ?_
     change wpAnyH _ _ _ _ _ _ _ (Act.put _ (some 57) _) _
     simp only [Act.put, List.setIfInBounds_toArray, List.set_cons_zero, List.set_cons_succ]
     refine wpAnyH_ready (rs := [5]) (by kernel_rfl) (by simp) ?_
     refine AllReadyH.cons (o := _) rfl (fun K hK => ?_) AllReadyH.nil
     rw [if_pos (by rfl)]
     refine wp_store_mid 37 (.tmp 6) (.tmp 56) rfl (w.heap.size + 1 + 1 + 1) 0 EE.toArray rfl rfl (by rw [s29]; exact hHeld.2.2.1) (by rw [s29]; rw [l29] at i37; exact i37) (all_oneCell_toArray a29) ?_
     simp only [List.toList_toArray]
     refine hK.out _ _ ⟨World.rangeAt_setCells_apart hHeld.1 _ _ _ (.inl dj.1), World.rangeAt_setCells_apart hHeld.2.1 _ _ _ (.inl dj.2.2.1), World.there_setCells hHeld.2.2.1 _ _ _, World.there_setCells hHeld.2.2.2 _ _ _⟩ (fun hHeld => ?_)
     clear hK K
     try simp only [Act.put, List.setIfInBounds_toArray, List.set_cons_zero, List.set_cons_succ]
     refine wpAnyH_ready (rs := [6]) (by kernel_rfl) (by simp) ?_
     refine AllReadyH.cons (o := _) rfl (fun K hK => ?_) AllReadyH.nil
     rw [if_pos (by rfl)]
     refine wp_store_mid 42 (.tmp 7) (.tmp 57) rfl (w.heap.size + 1 + 1 + 1 + 1) 0 VV.toArray rfl rfl (by rw [s3]; exact hHeld.2.2.2) (by rw [s3]; rw [l3] at i42; exact i42) (all_oneCell_toArray a3) ?_
     simp only [List.toList_toArray]
     refine hK.out _ _ ⟨World.rangeAt_setCells_apart hHeld.1 _ _ _ (.inl dj.2.1), World.rangeAt_setCells_apart hHeld.2.1 _ _ _ (.inl dj.2.2.2), World.there_setCells hHeld.2.2.1 _ _ _, World.there_setCells hHeld.2.2.2 _ _ _⟩ (fun hHeld => ?_)
     clear hK K
     try simp only [Act.put, List.setIfInBounds_toArray, List.set_cons_zero, List.set_cons_succ]
     refine wpAnyH_done (by kernel_rfl) ?_ _
     go_wp2_with fail
     have BF : Hid (Below w.heap.size w ((wr.drew.setCells (w.heap.size + 1 + 1 + 1) 0 EE).setCells (w.heap.size + 1 + 1 + 1 + 1) 0 VV)) := Lib.hid (KK.dF _ _ _ (KK.dF _ _ _ (BW.out.drew) (by omega)) (by omega))
     refine bodyPost_ret (yL rfl _ _ (w.heap.size + 1 + 1 + 1) (w.heap.size + 1 + 1 + 1 + 1) EE VV _ _ rfl ?_ u37 rfl i37 rfl ?_ u42 rfl i42) rfl ?_
     · exact World.rangeAt_setCells_apart (World.rangeAt_setCells_same _ _ _ _ (by rw [l29]; simpa using f3)) _ _ _ (.inl (by omega))
     · exact World.rangeAt_setCells_same _ _ _ _ (by rw [l3]; exact World.there_setCells (by simpa using f4) _ _ _)
     · refine ⟨e', EH.out, ?_, fun j hj => (((OKR.out j hj).below MB.out.drew).cells (.inl GG.out.1)).cells (.inr GG.out.2), BF.out⟩
       rw [hEE, hVV, HZ.out.1, HZ.out.2.1, HZ.out.2.2]
       rfl
   · have c0 := Lib.hid ((Below.cell M.out.be (p := ⟨b0, o0, none⟩) HB0.out).trans HC0.out)
     have hlt := Nat.lt_of_lt_of_le HB0.out M.out.be.size
     have cc := c0.out
     have ix := IX0.out
     have MV := M.out.r0.cell
     have MF := M.out.r0.free
     have lV := M.out.r0.lt
     simp only [CW] at MV
     go_wp2
     go_roundw
     case rel => exact ⟨0 + 1, by omega, by go_num, Lib.hid ((M.out.put 0 42 _ M.out.r0 0 (I z0)).alloc _)⟩
     case measure => simp [intOf]
   · have c1 := Lib.hid ((Below.cell M.out.be (p := ⟨b1, o1, none⟩) HB1.out).trans HC1.out)
     have hlt := Nat.lt_of_lt_of_le HB1.out M.out.be.size
     have cc := c1.out
     have ix := IX1.out
     have MV := M.out.r0.cell
     have MF := M.out.r0.free
     have lV := M.out.r0.lt
     simp only [CW] at MV
     go_wp2
     go_roundw
     case rel => exact ⟨1 + 1, by omega, by go_num, Lib.hid ((M.out.put 0 42 _ M.out.r0 1 (I z1)).alloc _)⟩
     case measure => simp [intOf]
   · have c2 := Lib.hid ((Below.cell M.out.be (p := ⟨b2, o2, none⟩) HB2.out).trans HC2.out)
     have hlt := Nat.lt_of_lt_of_le HB2.out M.out.be.size
     have cc := c2.out
     have ix := IX2.out
     have MV := M.out.r0.cell
     have MF := M.out.r0.free
     have lV := M.out.r0.lt
     simp only [CW] at MV
     go_wp2
     go_roundw
     case rel => exact ⟨2 + 1, by omega, by go_num, Lib.hid ((M.out.put 0 42 _ M.out.r0 2 (I z2)).alloc _)⟩
     case measure => simp [intOf]
end Go.Proofs.Ytnijhjbcjeohhaa.EE

namespace Go.Proofs.Ytnijhjbcjeohhaa.EE
open Go.RowKit Go.Proofs.Ytnijhjbcjeohhaa.KK Go.Proofs.af.aA Go.Proofs.af.aN Go.Proofs.af.aP
set_option linter.unusedVariables false
set_option linter.unusedSimpArgs false
theorem CZ (g : Nat) (c : Cf) (e : Es) (s : Sm) (w : World) (R : Row w g 89 (wk c e s 0 0 0)) (hm : s.missing = true) :
 Calls Try.prog 37 #[.pointer (some ⟨g, 0, none⟩)] w fun x w' => x = .returned (.tuple #[]) ∧ w' = w := by
 have hc := R.cell
 go_enter Try.func37, Try.ntmps37
 go_wp2
 exact bodyPost_ret (results_none rfl _ _ _) rfl ⟨rfl, rfl⟩
theorem DD (g : Nat) (c : Cf) (e : Es) (s : Sm) (a0 a1 a2 : Int) (w : World) (R : Row w g 89 (wk c e s a0 a1 a2)) (hm : s.missing = true) :
 Calls Try.prog 39 #[.pointer (some ⟨g, 0, none⟩)] w fun x w' => x = .returned (.tuple #[]) ∧ w' = w := by
 have hc := R.cell
 go_enter Try.func39, Try.ntmps39
 go_wp2
 exact bodyPost_ret (results_none rfl _ _ _) rfl ⟨rfl, rfl⟩
structure Rw (w : World) (t : Tr) : Prop where
 x : Rd w t.A t.x
 xc : t.x.length ≤ t.c
 p : Rd w t.B t.p
 pd : t.p.length ≤ t.d
theorem Rw.below {w w' : World} {t : Tr} (h : Rw w t) (hb : Below w.heap.size w w') : Rw w' t := ⟨h.x.below hb, h.xc, h.p.below hb, h.pd⟩
theorem Rx.rw {o : Prop} {g : Nat} {w : World} {t : Tr} (h : Rx o g w t) : Rw w t := ⟨h.x.rd, h.xc, h.p.rd, h.pd⟩
theorem Rw.rx {w : World} {t : Tr} (h : Rw w t) (hx : 0 < t.x.length) (hp : 0 < t.p.length) : Rx True (w.heap.size + 5) w t :=
 ⟨⟨h.x, fun ad e => .inl ⟨trivial, (by have := PR.Rd.blk h.x ad e hx; omega)⟩⟩, h.xc, ⟨h.p, fun ad e => .inl ⟨trivial, (by have := PR.Rd.blk h.p ad e hp; omega)⟩⟩, h.pd⟩
structure Gd (n : En) : Prop where
 lx : ∀ j, j < 3 → (n.x j).length = 3
 lp : ∀ j, j < 3 → (n.p j).length = 9
 s0 : 0 ≤ n.steps
 s1 : n.steps ≤ 1099511627776
 c0 : 0 ≤ n.fJ
 c1 : n.fJ ≤ 1000
 o0 : ∀ k, k < 4 → 0 ≤ n.off k
 o1 : ∀ k, k < 4 → n.off k ≤ 1000
def a3 (x y z : Int) : Nat → Int
 | 0 => x
 | 1 => y
 | _ => z
def BQ (miss : Bool) (dt : Int) (n : En) (g0 g1 g2 a0 a1 a2 : Int) (n1 : En) (y : Nat → Int) : Prop :=
 (miss = true ∧ n1 = n ∧ y = a3 0 0 0) ∨
 (miss = false ∧ ∃ m0 m1 m2 m3 p0 p1 p2 p3 u0 u1 u2 u3 y0 y1 y2 F1 F2 F3 F4, yA (PQ.cl g0) (PQ.cl g1) (PQ.cl g2) dt m0 m1 m2 m3 F1 ∧ Uj n.q0 n.q1 n.q2 n.q3 m0 m1 m2 m3 p0 p1 p2 p3 F2 ∧ sJ p0 p1 p2 p3 u0 u1 u2 u3 F3 ∧
   Po u0 u1 u2 u3 (PQ.cl a0) (PQ.cl a1) (PQ.cl a2) y0 y1 y2 F4 ∧ PQ.wI (PQ.at4 u0 u1 u2 u3) 4 = true ∧
   n1 = { n with q0 := u0, q1 := u1, q2 := u2, q3 := u3, sat := (((((((n.sat || PQ.od g0) || PQ.od g1) || PQ.od g2) || PQ.od a0) || PQ.od a1) || PQ.od a2) || (((F1 || F2) || F3) || F4)) } ∧ y = a3 y0 y1 y2)
theorem yG (miss : Bool) (dt : Int) (n : En) (g0 g1 g2 a0 a1 a2 : Int) : ∃ n1 y, BQ miss dt n g0 g1 g2 a0 a1 a2 n1 y := by
 cases miss
 · obtain ⟨m0, m1, m2, m3, F1, h1, _⟩ := PQ.Ko (a3 (PQ.cl g0) (PQ.cl g1) (PQ.cl g2)) dt
   obtain ⟨u0, u1, u2, u3, F3, h3, hr, _⟩ := PQ.AY (PQ.comp (PQ.at4 n.q0 n.q1 n.q2 n.q3) (PQ.at4 m0 m1 m2 m3) 0) (PQ.comp (PQ.at4 n.q0 n.q1 n.q2 n.q3) (PQ.at4 m0 m1 m2 m3) 1) (PQ.comp (PQ.at4 n.q0 n.q1 n.q2 n.q3) (PQ.at4 m0 m1 m2 m3) 2) (PQ.comp (PQ.at4 n.q0 n.q1 n.q2 n.q3) (PQ.at4 m0 m1 m2 m3) 3)
   exact ⟨_, _, .inr ⟨rfl, m0, m1, m2, m3, _, _, _, _, u0, u1, u2, u3, _, _, _, F1, _, F3, _, h1, fun w => PQ.Bi (PQ.at4 n.q0 n.q1 n.q2 n.q3) (PQ.at4 m0 m1 m2 m3) w, h3, fun w => PQ.Ez _ _ _ _ _ _ _ w, hr, rfl, rfl⟩⟩
 · exact ⟨_, _, .inl ⟨rfl, rfl, rfl⟩⟩
theorem BQ.gd {miss : Bool} {dt : Int} {n : En} {g0 g1 g2 a0 a1 a2 : Int} {n1 : En} {y : Nat → Int} (h : BQ miss dt n g0 g1 g2 a0 a1 a2 n1 y) (G : Gd n) : Gd n1 := by
 rcases h with ⟨_, rfl, _⟩ | ⟨_, _, _, _, _, _, _, _, _, _, _, _, _, _, _, _, _, _, _, _, _, _, _, _, _, rfl, _⟩
 · exact G
 · exact ⟨fun j hj => by obtain rfl | rfl | rfl : j = 0 ∨ j = 1 ∨ j = 2 := by omega
                         all_goals exact G.lx _ (by omega), fun j hj => by obtain rfl | rfl | rfl : j = 0 ∨ j = 1 ∨ j = 2 := by omega
                                                                           all_goals exact G.lp _ (by omega), G.s0, G.s1, G.c0, G.c1, fun k hk => by obtain rfl | rfl | rfl | rfl : k = 0 ∨ k = 1 ∨ k = 2 ∨ k = 3 := by omega
                                                                                                                                                     all_goals exact G.o0 _ (by omega), fun k hk => by obtain rfl | rfl | rfl | rfl : k = 0 ∨ k = 1 ∨ k = 2 ∨ k = 3 := by omega
                                                                                                                                                                                                       all_goals exact G.o1 _ (by omega)⟩
def YJ (c : Cf) : List Int := [16777216, c.dt, 0, 0, 16777216, (kC 0 c.dt).1, 0, 0, 16777216]
def ahQ (c : Cf) : List Int := eF [0, (iD c.acc c.dt).1, (iD c.bias c.dt).1]
def VY (c : Cf) (n : En) (j : Nat) : List Int := mulL 3 3 1 (YJ c) (n.x j)
def Xd (c : Cf) (n : En) (j : Nat) : List Int := PR.um 3 (iy gQ 3 3 (PR.gK 3 3 (YJ c) (n.p j)) (ahQ c))
def ahY (c : Cf) (n : En) (y : Nat → Int) (j : Nat) : Int := (gQ ((VY c n j).getD 1 0) (iD (y j) c.dt).1).1
def ahS (c : Cf) (n : En) (y : Nat → Int) : Bool :=
 Nb (((n.sat || (kC 0 c.dt).2) || (iD c.acc c.dt).2) || (iD c.bias c.dt).2) (fun j => (iD (y j) c.dt).2) (fun j => (gQ ((VY c n j).getD 1 0) (iD (y j) c.dt).1).2) (fun j => qC 3 3 1 (YJ c) (n.x j)) (fun j => PR.mM 3 3 (YJ c) (n.p j)) (fun j => jf gQ 3 3 (PR.gK 3 3 (YJ c) (n.p j)) (ahQ c)) 3
def En.ahead (c : Cf) (n : En) (y : Nat → Int) : En :=
 { n with x0 := (VY c n 0).set 1 (ahY c n y 0), p0 := Xd c n 0, x1 := (VY c n 1).set 1 (ahY c n y 1), p1 := Xd c n 1, x2 := (VY c n 2).set 1 (ahY c n y 2), p2 := Xd c n 2, sat := ahS c n y }
theorem JC (c : Cf) (n : En) (j : Nat) : (VY c n j).length = 3 := PR.jm 3 3 1 _ _
theorem Ry (c : Cf) (n : En) (j : Nat) : (Xd c n j).length = 9 := by unfold Xd PR.um; rw [PR.pO, PR.qG]
theorem Gd.ahead {c : Cf} {n : En} {y : Nat → Int} (G : Gd n) : Gd (En.ahead c n y) :=
 ⟨fun j hj => by
   obtain rfl | rfl | rfl : j = 0 ∨ j = 1 ∨ j = 2 := by omega
   all_goals simp [En.x, En.ahead, JC], fun j hj => by
   obtain rfl | rfl | rfl : j = 0 ∨ j = 1 ∨ j = 2 := by omega
   all_goals simp [En.p, En.ahead, Ry], G.s0, G.s1, G.c0, G.c1, fun k hk => by
   obtain rfl | rfl | rfl | rfl : k = 0 ∨ k = 1 ∨ k = 2 ∨ k = 3 := by omega
   all_goals exact G.o0 _ (by omega), fun k hk => by
   obtain rfl | rfl | rfl | rfl : k = 0 ∨ k = 1 ∨ k = 2 ∨ k = 3 := by omega
   all_goals exact G.o1 _ (by omega)⟩
theorem Ql (a b : Int) : PQ.lC (iD a b).1 := PQ.sgB _ _ _
theorem not_odd {a : Int} (h : PQ.lC a) : ng a = false := by
 have := h.1
 have := h.2
 unfold ng
 simp
 omega
theorem Pm (g : Nat) (c : Cf) (e : Es) (s : Sm) (y : Nat → Int) (w : World) (R : Row w g 89 (wk c e s (y 0) (y 1) (y 2))) (hr : Ok True g w e) (G : Gd e.nu) :
 Calls Try.prog 38 #[.pointer (some ⟨g, 0, none⟩)] w fun r w' => r = .returned (.tuple #[]) ∧ ∃ e' : Es, e'.nu = En.ahead c e.nu y ∧ Ok False g w' e' ∧ gW w g c e' s (y 0) (y 1) (y 2) w' := by
 refine (Gf g c e s y (kC 0 c.dt).1 (iD c.acc c.dt).1 (iD c.bias c.dt).1 _ _ _ (ahQ c) (VY c e.nu) _ _ (Xd c e.nu) _ _ _ _ _ _ (ahY c e.nu y) w R hr (fun j hj => ⟨by rw [KJ]; exact G.lx j hj, by rw [Nq]; exact G.lp j hj⟩)
  (fun w => pY _ _ w) (fun w => eH _ _ w) (fun w => eH _ _ w) rfl (PR.kW _) (by simp [List.any, not_odd (Ql _ _), show ng 0 = false from rfl]) (fun j hj => by rw [KJ, Nq]; exact ⟨rfl, rfl, rfl, rfl, rfl, rfl, rfl⟩) (fun j _ => JC c e.nu j)
  (fun j hj w => eH _ _ w) (fun j hj w => nP _ _ w)).mono ?_
 rintro r w' ⟨rfl, t, ht, hw⟩
 refine ⟨rfl, _, ?_, ?_, hw⟩
 · simp only [Es.nu, (ht 0 (by decide)).1, (ht 0 (by decide)).2.1, (ht 1 (by decide)).1, (ht 1 (by decide)).2.1, (ht 2 (by decide)).1, (ht 2 (by decide)).2.1]
   rfl
 · intro j hj
   obtain rfl | rfl | rfl : j = 0 ∨ j = 1 ∨ j = 2 := by omega
   all_goals exact (ht _ (by omega)).2.2
def uz (n : En) (i k : Nat) (z r gate : Int) (n' : En) : Prop := ∃ X P tk fl, uJ n i k z r gate X P tk fl ∧ n' = n.held i k X P tk (PQ.od z || fl)
theorem P7 {lx lp lh : List Int} {z r gate : Int} {X P : List Int} {tk fl : Bool} (H : PR.Rz 3 lx lp lh z r gate X P tk fl) (h1 : lx.length = 3) (h2 : lp.length = 9) : X.length = 3 ∧ P.length = 9 := by
 unfold PR.Rz at H
 split at H
 · obtain ⟨rfl, rfl, _, _⟩ := H
   exact ⟨h1, h2⟩
 · obtain ⟨rfl, rfl, _, _⟩ := H
   exact ⟨upto_length, by unfold PR.tP PR.um; rw [PR.pO, PR.qG]⟩
theorem qF {n : En} (G : Gd n) {i k : Nat} (hi : i < 3) (hk : k < 4) (z r gate : Int) : ∃ n', uz n i k z r gate n' := by
 obtain ⟨X, P, tk, fl, h⟩ := PR.MM 3 (n.x i) (n.p i) [16777216, 0, 0] (PQ.cl z) r gate
 have hl := P7 h (G.lx i hi) (G.lp i hi)
 exact ⟨_, X, P, tk, fl, ⟨h, G.lx i hi, G.lp i hi, hl.1, hl.2, G.o0 k hk, G.o1 k hk⟩, rfl⟩
theorem y7 {tk : Bool} {n : Int} (h0 : 0 ≤ n) (h1 : n ≤ 1000) : 0 ≤ jd tk n ∧ jd tk n ≤ 1000 := by
 unfold jd
 split
 · omega
 · omega
theorem NV (n : En) (i k j : Nat) (hj : j < 3) (hi : i < 3) (X P : List Int) (tk fl : Bool) : (n.held i k X P tk fl).x j = if i = j then X else n.x j := by
 obtain rfl | rfl | rfl : i = 0 ∨ i = 1 ∨ i = 2 := by omega
 all_goals
  obtain rfl | rfl | rfl : j = 0 ∨ j = 1 ∨ j = 2 := by omega
  all_goals simp [En.held, En.x]
theorem Vp (n : En) (i k j : Nat) (hj : j < 3) (hi : i < 3) (X P : List Int) (tk fl : Bool) : (n.held i k X P tk fl).p j = if i = j then P else n.p j := by
 obtain rfl | rfl | rfl : i = 0 ∨ i = 1 ∨ i = 2 := by omega
 all_goals
  obtain rfl | rfl | rfl : j = 0 ∨ j = 1 ∨ j = 2 := by omega
  all_goals simp [En.held, En.p]
theorem vJ (n : En) (i k j : Nat) (hj : j < 4) (hk : k < 4) (X P : List Int) (tk fl : Bool) : (n.held i k X P tk fl).off j = if k = j then jd tk (n.off k) else n.off j := by
 obtain rfl | rfl | rfl | rfl : k = 0 ∨ k = 1 ∨ k = 2 ∨ k = 3 := by omega
 all_goals
  obtain rfl | rfl | rfl | rfl : j = 0 ∨ j = 1 ∨ j = 2 ∨ j = 3 := by omega
  all_goals simp [En.held, En.off]
theorem uz.gd {n n' : En} {i k : Nat} {z r gate : Int} (h : uz n i k z r gate n') (G : Gd n) (hi : i < 3) (hk : k < 4) : Gd n' := by
 obtain ⟨X, P, tk, fl, H, rfl⟩ := h
 refine ⟨fun j hj => ?_, fun j hj => ?_, G.s0, G.s1, G.c0, G.c1, fun j hj => ?_, fun j hj => ?_⟩
 · rw [NV n i k j hj hi]; split
   · exact H.lX
   · exact G.lx j hj
 · rw [Vp n i k j hj hi]; split
   · exact H.lP
   · exact G.lp j hj
 · rw [vJ n i k j hj hk]; split
   · exact (y7 H.o0 H.o1).1
   · exact G.o0 j hj
 · rw [vJ n i k j hj hk]; split
   · exact (y7 H.o0 H.o1).2
   · exact G.o1 j hj
structure zN (c : Cf) (n : En) (s : Sm) (n' : En) : Prop where
 miss : s.missing = true → n' = n
 go : s.missing = false → ∃ (m1 : En) (gk : Nat → En), (s.hasB = true → uz n 2 0 s.dJ c.dJ c.gate m1) ∧ (s.hasB = false → m1 = n) ∧ gk 0 = m1 ∧ gk 3 = n' ∧
  (s.pK = true → ∀ k, k < 3 → uz (gk k) k (k + 1) (s.n k) c.dY c.gate (gk (k + 1))) ∧ (s.pK = false → ∀ k, k < 3 → gk (k + 1) = gk k)
theorem y8 (c : Cf) {n : En} (s : Sm) (G : Gd n) : ∃ n', zN c n s n' ∧ Gd n' := by
 cases hm : s.missing
 case true => exact ⟨n, ⟨fun _ => rfl, fun h => by rw [hm] at h; cases h⟩, G⟩
 have hB : ∃ m1, Gd m1 ∧ (s.hasB = true → uz n 2 0 s.dJ c.dJ c.gate m1) ∧ (s.hasB = false → m1 = n) := by
  cases hb : s.hasB
  · exact ⟨n, G, (fun h => by cases h), fun _ => rfl⟩
  · obtain ⟨m1, h⟩ := qF G (i := 2) (k := 0) (by decide) (by decide) s.dJ c.dJ c.gate
    exact ⟨m1, h.gd G (by decide) (by decide), fun _ => h, (fun h => by cases h)⟩
 obtain ⟨m1, G1, h1, h2⟩ := hB
 cases hg : s.pK
 · exact ⟨m1, ⟨fun h => by rw [hm] at h; (cases h), fun _ => ⟨m1, fun _ => m1, h1, h2, rfl, rfl, fun h => by rw [hg] at h; (cases h), fun _ _ _ => rfl⟩⟩, G1⟩
 · obtain ⟨k1, e1⟩ := qF G1 (i := 0) (k := 1) (by decide) (by decide) (s.n 0) c.dY c.gate
   have G2 := e1.gd G1 (by decide) (by decide)
   obtain ⟨k2, e2⟩ := qF G2 (i := 1) (k := 2) (by decide) (by decide) (s.n 1) c.dY c.gate
   have G3 := e2.gd G2 (by decide) (by decide)
   obtain ⟨k3, e3⟩ := qF G3 (i := 2) (k := 3) (by decide) (by decide) (s.n 2) c.dY c.gate
   refine ⟨k3, ⟨fun h => by rw [hm] at h; (cases h), fun _ => ⟨m1, fun k => match k with | 0 => m1 | 1 => k1 | 2 => k2 | _ => k3, h1, h2, rfl, rfl, fun _ k hk => ?_, fun h => by rw [hg] at h; (cases h)⟩⟩, e3.gd G3 (by decide) (by decide)⟩
   obtain rfl | rfl | rfl : k = 0 ∨ k = 1 ∨ k = 2 := by omega
   · exact e1
   · exact e2
   · exact e3
theorem QL {o : Prop} (g : Nat) (c : Cf) (e : Es) (s : Sm) (a0 a1 a2 : Int) (n' : En) (w : World) (R : Row w g 89 (wk c e s a0 a1 a2)) (hr : Ok o g w e) (hb : 0 < c.dJ) (hn : 0 < c.dY) (H : zN c e.nu s n') :
 Calls Try.prog 39 #[.pointer (some ⟨g, 0, none⟩)] w fun x w' => x = .returned (.tuple #[]) ∧ ∃ e' : Es, e'.nu = n' ∧ Ok o g w' e' ∧ gW w g c e' s a0 a1 a2 w' := by
 cases hm : s.missing
 case true =>
  refine (DD g c e s a0 a1 a2 w R hm).mono ?_
  rintro x w' ⟨rfl, rfl⟩
  exact ⟨rfl, e, (H.miss hm).symm, hr, R, dP _ _⟩
 obtain ⟨m1, gk, h1, h2, h3, h4, h5, h6⟩ := H.go hm
 have hB : ∃ XB PB S_ TS, s.hasB = true → 0 < c.dJ ∧ uJ e.nu 2 0 s.dJ c.dJ c.gate XB PB S_ TS ∧ m1 = e.nu.held 2 0 XB PB S_ (PQ.od s.dJ || TS) := by
  cases hb' : s.hasB
  · exact ⟨[], [], false, false, fun h => by cases h⟩
  · obtain ⟨X, P, tk, fl, ht, he⟩ := h1 hb'
    exact ⟨X, P, tk, fl, fun _ => ⟨hb, ht, he⟩⟩
 obtain ⟨XB, PB, S_, TS, hB⟩ := hB
 have hG : ∃ (XG PG : Nat → List Int) (SY TR : Nat → Bool), s.pK = true → 0 < c.dY ∧ ∀ k, k < 3 → uJ (gk k) k (k + 1) (s.n k) c.dY c.gate (XG k) (PG k) (SY k) (TR k) ∧ gk (k + 1) = (gk k).held k (k + 1) (XG k) (PG k) (SY k) (PQ.od (s.n k) || TR k) := by
  cases hg' : s.pK
  · exact ⟨fun _ => [], fun _ => [], fun _ => false, fun _ => false, fun h => by cases h⟩
  · obtain ⟨X0, P0, t0, f0, e0, d0⟩ := h5 hg' 0 (by decide)
    obtain ⟨X1, P1, t1, f1, e1, d1⟩ := h5 hg' 1 (by decide)
    obtain ⟨X2, P2, t2, f2, e2, d2⟩ := h5 hg' 2 (by decide)
    refine ⟨fun k => match k with | 0 => X0 | 1 => X1 | _ => X2, fun k => match k with | 0 => P0 | 1 => P1 | _ => P2, fun k => match k with | 0 => t0 | 1 => t1 | _ => t2, fun k => match k with | 0 => f0 | 1 => f1 | _ => f2, fun _ => ⟨hn, fun k hk => ?_⟩⟩
    obtain rfl | rfl | rfl : k = 0 ∨ k = 1 ∨ k = 2 := by omega
    · exact ⟨e0, d0⟩
    · exact ⟨e1, d1⟩
    · exact ⟨e2, d2⟩
 obtain ⟨XG, PG, SY, TR, hG⟩ := hG
 refine (Ia g c e s a0 a1 a2 m1 gk XB PB S_ TS XG PG SY TR w R hr hm hB h2 h3 hG h6).mono ?_
 rintro x w' ⟨rfl, e', he, ho, hw⟩
 exact ⟨rfl, e', he.trans h4, ho, hw⟩
def En.cnt (n : En) (miss : Bool) : En := { n with steps := min (n.steps + 1) 1099511627776, fJ := if miss = true then min (n.fJ + 1) 1000 else 0 }
theorem Gd.cnt {n : En} (G : Gd n) (m : Bool) : Gd (n.cnt m) :=
 ⟨fun j hj => by
   obtain rfl | rfl | rfl : j = 0 ∨ j = 1 ∨ j = 2 := by omega
   all_goals exact G.lx _ (by omega), fun j hj => by
   obtain rfl | rfl | rfl : j = 0 ∨ j = 1 ∨ j = 2 := by omega
   all_goals exact G.lp _ (by omega), by have := G.s0; simp only [En.cnt]; omega, by simp only [En.cnt]; omega, by have := G.c0; simp only [En.cnt]; split <;> omega, by simp only [En.cnt]; split <;> omega, fun k hk => by
   obtain rfl | rfl | rfl | rfl : k = 0 ∨ k = 1 ∨ k = 2 ∨ k = 3 := by omega
   all_goals exact G.o0 _ (by omega), fun k hk => by
   obtain rfl | rfl | rfl | rfl : k = 0 ∨ k = 1 ∨ k = 2 ∨ k = 3 := by omega
   all_goals exact G.o1 _ (by omega)⟩
structure Ro (n0 : Nat) (w : World) (t : Tr) : Prop where
 rw : Rw w t
 na : ∀ ad, t.A = some ad → n0 ≤ ad.block
 nb : ∀ ad, t.B = some ad → n0 ≤ ad.block
theorem Ro.below {n0 : Nat} {w w' : World} {t : Tr} (h : Ro n0 w t) (hb : Below w.heap.size w w') : Ro n0 w' t := ⟨h.rw.below hb, h.na, h.nb⟩
theorem Ro.grown {n0 : Nat} {w w' : World} {t : Tr} (h : Ro n0 w t) {b : Nat} (hg : w.grownBy w' (some b)) (hb : b < n0) : Ro n0 w' t :=
 ⟨⟨Rd.gr h.rw.x hg (fun ad e => by have := h.na ad e; omega), h.rw.xc, Rd.gr h.rw.p hg (fun ad e => by have := h.nb ad e; omega), h.rw.pd⟩, h.na, h.nb⟩
theorem Nl {w : World} {base c : Nat} {A : Option Addr} {l : List Int} (h : Own w base (.slice A l.length c) l) : ∀ ad, A = some ad → base ≤ ad.block := fun ad e => by
 subst e
 exact (h.row.lt ad.block rfl).1
def kX (c : Cf) (n : En) (s : Sm) (n' : En) : Prop := ∀ (e : Es) (w : World), e.nu = n → (∀ j, j < 3 → Rw w (e.ax j)) →
 Calls Try.prog 16 #[.agg c.R, .agg e.R, .agg s.R] w fun x w' => ∃ e' : Es, e'.nu = n' ∧ x = .returned (.tuple #[.agg e'.R, .agg #[I (n'.x0.getD 0 0), I (n'.x1.getD 0 0), I (n'.x2.getD 0 0)]]) ∧ (∀ j, j < 3 → Ro w.heap.size w' (e'.ax j)) ∧ Below w.heap.size w w'
theorem C9 (c : Cf) (n : En) (s : Sm) (n1 n3 : En) (y : Nat → Int) (G : Gd n) (hb : 0 < c.dJ) (hn : 0 < c.dY) (T : BQ s.missing c.dt n s.g0 s.g1 s.g2 s.a0 s.a1 s.a2 n1 y) (H : zN c (En.ahead c n1 y) s n3) (G3 : Gd n3) : kX c n s (n3.cnt s.missing) := by
 intro e w he hr
 subst he
 have G1 := T.gd G
 refine (J9 c e s w (fun i w' => match i with
  | 0 => Row w' (w.heap.size + 5) 89 (wk c e s 0 0 0) ∧ Ok True (w.heap.size + 5) w' e
  | 1 => ∃ e1 : Es, e1.nu = n1 ∧ Ok True (w.heap.size + 5) w' e1 ∧ Row w' (w.heap.size + 5) 89 (wk c e1 s (y 0) (y 1) (y 2))
  | 2 => ∃ e1 : Es, e1.nu = En.ahead c n1 y ∧ Ok False (w.heap.size + 5) w' e1 ∧ Row w' (w.heap.size + 5) 89 (wk c e1 s (y 0) (y 1) (y 2))
  | 3 => ∃ e1 : Es, e1.nu = n3 ∧ Ok False (w.heap.size + 5) w' e1 ∧ Row w' (w.heap.size + 5) 89 (wk c e1 s (y 0) (y 1) (y 2))
  | _ => ∃ e1 : Es, e1.nu = n3.cnt s.missing ∧ Ok False (w.heap.size + 5) w' e1 ∧ Row w' (w.heap.size + 5) 89 (wk c e1 s (y 0) (y 1) (y 2))) (fun e' => e'.nu = n3.cnt s.missing) (w.heap.size + 5) rfl ?_ ?_ ?_ ?_ ?_ ?_).mono ?_
 · intro w' R hb
   exact ⟨R, fun j hj => ((hr j hj).rx (by rw [KJ, G.lx j hj]; decide) (by rw [Nq, G.lp j hj]; decide)).below hb⟩
 · rintro w' ⟨R, ho⟩
   rcases T with ⟨hm, rfl, rfl⟩ | ⟨hm, m0, m1, m2, m3, p0, p1, p2, p3, u0, u1, u2, u3, y0, y1, y2, F1, F2, F3, F4, h1, h2, h3, h4, _, rfl, rfl⟩
   · refine (CZ _ c e s w' R hm).mono ?_
     rintro x w2 ⟨rfl, rfl⟩
     exact ⟨rfl, ⟨e, rfl, ho, R⟩, dP _ _⟩
   · refine (qB _ c e s m0 m1 m2 m3 p0 p1 p2 p3 u0 u1 u2 u3 y0 y1 y2 F1 F2 F3 F4 w' R hm h1 h2 h3 h4).mono ?_
     rintro x w2 ⟨rfl, hw⟩
     refine ⟨rfl, ⟨_, ?_, ?_, hw.row⟩, hw.gr⟩
     · rfl
     · intro j hj
       have := (ho j hj).gr hw.gr
       obtain rfl | rfl | rfl : j = 0 ∨ j = 1 ∨ j = 2 := by omega
       all_goals exact this
 · rintro w' ⟨e1, rfl, ho, R⟩
   refine (Pm _ c e1 s y w' R ho G1).mono ?_
   rintro x w2 ⟨rfl, e2, h2, ho2, hw⟩
   exact ⟨rfl, ⟨e2, h2, ho2, hw.row⟩, hw.gr⟩
 · rintro w' ⟨e1, h1, ho, R⟩
   refine (QL _ c e1 s _ _ _ n3 w' R ho hb hn (by rw [h1]; exact H)).mono ?_
   rintro x w2 ⟨rfl, e2, h2, ho2, hw⟩
   exact ⟨rfl, ⟨e2, h2, ho2, hw.row⟩, hw.gr⟩
 · rintro w' ⟨e1, rfl, ho, R⟩
   refine (FN _ c e1 s _ _ _ w' R G3.s0 G3.s1 G3.c0 G3.c1).mono ?_
   rintro x w2 ⟨rfl, hw⟩
   refine ⟨rfl, ⟨_, ?_, ?_, hw.row⟩, hw.gr⟩
   · rfl
   · intro j hj
     have := (ho j hj).gr hw.gr
     obtain rfl | rfl | rfl : j = 0 ∨ j = 1 ∨ j = 2 := by omega
     all_goals exact this
 · rintro w' ⟨e1, h1, ho, R⟩
   exact ⟨e1, _, _, _, h1, R, ho, fun j hj => by rw [KJ, h1]; exact (G3.cnt _).lx j hj⟩
 · rintro x w' ⟨e', he, rfl, hx, hb⟩
   refine ⟨e', he, ?_, fun j hj => ⟨(hx j hj).rw, fun ad e => Nat.le_of_lt (Nat.lt_of_le_of_lt (Nat.le_add_right _ 5) ((hx j hj).x.beyond ad e)), fun ad e => Nat.le_of_lt (Nat.lt_of_le_of_lt (Nat.le_add_right _ 5) ((hx j hj).p.beyond ad e))⟩, hb⟩
   rw [← he]
   rfl
end Go.Proofs.Ytnijhjbcjeohhaa.EE

namespace Go.Proofs.Ytnijhjbcjeohhaa.EE
open Go.RowKit Go.Proofs.Ytnijhjbcjeohhaa.KK Go.Proofs.af.aA Go.Proofs.af.aN Go.Proofs.af.aP
set_option linter.unusedVariables false
set_option linter.unusedSimpArgs false
def mO (q : Int) : Bool := decide (q ≤ 0) || decide (q > 17179869184)
theorem Iq (q : Int) (w : World) : Calls Try.prog 56 #[I q] w fun e w' => e = .returned (.bool (mO q)) ∧ Below w.heap.size w w' := by
 by_cases h : q ≤ 0
 · have h0 : decide (q ≤ 0) = true := decide_eq_true h
   clear h
   go_enter Try.func56, Try.ntmps56
   go_wp2
   go_ret
   exact ⟨by simp [mO, h0], Below.refl _ _⟩
 · have h0 : decide (q ≤ 0) = false := decide_eq_false h
   clear h
   go_enter Try.func56, Try.ntmps56
   go_wp2
   go_ret
   exact ⟨by simp [mO, h0], Below.refl _ _⟩
theorem MR {l : List Int} {j : Nat} {x : Int} (h : l[j]? = some x) (ha : (l.take j).any mO = false) (hx : mO x = false) : (l.take (j + 1)).any mO = false := by
 rw [List.take_add_one, h, List.any_append, ha]
 simp [hx]
theorem VT {l : List Int} {j : Nat} {x : Int} (h : l[j]? = some x) (hx : mO x = true) : l.any mO = true :=
 List.any_eq_true.2 ⟨x, List.mem_of_getElem? h, hx⟩
theorem KY (A : Option Addr) (c : Nat) (l : List Int) (w : World) (hw : Rd w A l) (hlen : l.length ≤ 1000000) :
 Calls Try.prog 81 #[.slice A l.length c, .func (.func 56) #[] #[]] w fun e w' => ∃ x, e = .returned (I x) ∧ decide (x ≥ 0) = l.any mO ∧ Below w.heap.size w w' := by
 have HW := Lib.hid hw
 have HL := Lib.hid hlen
 clear hw hlen
 go_enter Try.func81, Try.ntmps81
 go_wp2_with fail
 go_loopw [8] (fun i wr => ∃ k : Nat, k ≤ l.length ∧ i = .int .i64 k ∧ Hid ((l.take k).any mO = false) ∧ Hid (Below w.heap.size w wr)) (fun i _ => l.length - (intOf i).toNat)
 case atStart => exact ⟨0, by omega, rfl, Lib.hid (by simp), Lib.hid (Below.refl _ _)⟩
 case round =>
  obtain ⟨k, hk, rfl, F, HB⟩ := hrel
  by_cases hkl : k = l.length
  · subst hkl
    go_wp2
    go_ret
    exact ⟨_, rfl, by have := F.out; rw [List.take_length] at this; rw [this]; rfl, HB.out⟩
  have hlt : (k : Int) < l.length := by omega
  have hk0 : (0 : Int) ≤ k := by omega
  have STEP : Hid (k + 1 ≤ l.length ∧ l.length - (k + 1) < l.length - k) := Lib.hid (by omega)
  have hw64 : IntKind.i64.wrap ((k : Int) + 1) = (k : Int) + 1 := by have := HL.out; simp [IntKind.wrap, IntKind.bits, IntKind.signed]; omega
  obtain ⟨b, off, rfl, hb, hc⟩ := (HW.out.below HB.out).cells (by omega)
  obtain ⟨x, hx⟩ : ∃ x, l[k]? = some x := ⟨l[k]'(by omega), List.getElem?_eq_getElem (by omega)⟩
  have c0 := hc k x hx
  have HX := Lib.hid hx
  clear hc hx hk hkl
  go_wp2_with fail
  refine (Iq x _).mono ?_
  rintro e w2 ⟨rfl, hb2⟩
  have HB2 := Lib.hid (HB.out.trans (hb2.mono HB.out.size))
  clear hb2
  cases hq : mO x
  · have HQ := Lib.hid hq
    clear hq
    go_wp2
    go_roundw
    case rel => exact ⟨k + 1, STEP.out.1, by go_num, Lib.hid (MR HX.out F.out HQ.out), HB2⟩
    case measure =>
     have h := STEP.out.2
     show l.length - ((k : Int) + 1).toNat < l.length - ((k : Int)).toNat
     rw [show ((k : Int) + 1).toNat = k + 1 by omega, show ((k : Int)).toNat = k by omega]
     exact h
  · have HQ := Lib.hid hq
    clear hq
    go_wp2
    go_ret
    exact ⟨_, rfl, by rw [VT HX.out HQ.out]; simp, HB2.out⟩
theorem DJ (A : Option Addr) (c : Nat) (l : List Int) (w : World) (hw : Rd w A l) (hlen : l.length ≤ 1000000) :
 Calls Try.prog 55 #[.slice A l.length c, .func (.func 56) #[] #[]] w fun e w' => e = .returned (.bool (l.any mO)) ∧ Below w.heap.size w w' := by
 have H := Lib.hid (KY A c l w hw hlen)
 clear hw hlen
 go_enter Try.func55, Try.ntmps55
 go_wp2_with fail
 refine H.out.mono ?_
 rintro e w2 ⟨x, rfl, hx, hb⟩
 have HB := Lib.hid hb
 have HX := Lib.hid hx
 clear hb hx
 go_wp2
 go_ret
 exact ⟨by rw [← HX.out]; rfl, HB.out⟩
def Cf.l (c : Cf) : List Int := [c.dt, c.acc, c.bias, c.dJ, c.dY, c.gate]
def Cf.may (c : Cf) : Bool := !c.l.any mO
theorem KP (c : Cf) (w : World) : Calls Try.prog 35 #[.agg c.row] w fun e w' => e = .returned (.bool c.may) ∧ Below w.heap.size w w' := by
 have H : Hid (Calls Try.prog 55 #[.slice (some ⟨w.heap.size + 1, 0, none⟩) 6 6, .func (.func 56) #[] #[]] ((w.alloc (.cells c.row 24)).alloc (.cells #[I c.dt, I c.acc, I c.bias, I c.dJ, I c.dY, I c.gate] 22)) fun e w' => e = .returned (.bool (c.l.any mO)) ∧ Below ((w.alloc (.cells c.row 24)).alloc (.cells #[I c.dt, I c.acc, I c.bias, I c.dJ, I c.dY, I c.gate] 22)).heap.size ((w.alloc (.cells c.row 24)).alloc (.cells #[I c.dt, I c.acc, I c.bias, I c.dJ, I c.dY, I c.gate] 22)) w') := Lib.hid (by
  have hr := Rd.new (w.alloc (.cells c.row 24)) 22 c.l (by simp [Cf.l])
  have := DJ (some ⟨(w.alloc (.cells c.row 24)).heap.size, 0, none⟩) 6 c.l _ hr (by simp [Cf.l])
  rw [World.size_alloc] at this
  exact this)
 have B0 := Lib.hid (((Below.refl w.heap.size w).alloc (Nat.le_refl _) (.cells c.row 24)).alloc (by simp) (.cells #[I c.dt, I c.acc, I c.bias, I c.dJ, I c.dY, I c.gate] 22))
 go_enter Try.func35, Try.ntmps35
 go_wp2_with fail
 refine H.out.mono ?_
 rintro e w2 ⟨rfl, hb⟩
 have HB := Lib.hid (B0.out.trans (hb.mono B0.out.size))
 clear hb
 go_wp2
 go_ret
 exact ⟨rfl, HB.out⟩
theorem Ro.own {w : World} {base c d n0 : Nat} {A B : Option Addr} {x p : List Int} (h : Own w base (.slice A x.length c) x) (k : Own w base (.slice B p.length d) p) (hn : n0 ≤ base) : Ro n0 w ⟨A, c, x, B, d, p⟩ :=
 ⟨⟨(PR.Own.rd h).1, (PR.Own.rd h).2, (PR.Own.rd k).1, (PR.Own.rd k).2⟩, fun ad e => Nat.le_trans hn (Nl h ad e), fun ad e => Nat.le_trans hn (Nl k ad e)⟩
def tY : List Int := eF [1677721600, 167772160, 16777216]
def pJ (t : Nat → Tr) : Nat → Array Value
 | 0 => #[I 16777216, I 0, I 0, I 0, I 0, I 0, .slice none 0 0, I 0, I 0, .slice none 0 0, I 0, I 0, .slice none 0 0, I 0, I 0, .slice none 0 0, I 0, I 0, .slice none 0 0, I 0, I 0, .slice none 0 0, I 0, I 0, I 0, I 0, I 0, I 0, .bool false]
 | 1 => #[I 16777216, I 0, I 0, I 0, I 3, I 1, .slice (t 0).A 3 (t 0).c, I 3, I 3, .slice (t 0).B 9 (t 0).d, I 0, I 0, .slice none 0 0, I 0, I 0, .slice none 0 0, I 0, I 0, .slice none 0 0, I 0, I 0, .slice none 0 0, I 0, I 0, I 0, I 0, I 0, I 0, .bool false]
 | 2 => #[I 16777216, I 0, I 0, I 0, I 3, I 1, .slice (t 0).A 3 (t 0).c, I 3, I 3, .slice (t 0).B 9 (t 0).d, I 3, I 1, .slice (t 1).A 3 (t 1).c, I 3, I 3, .slice (t 1).B 9 (t 1).d, I 0, I 0, .slice none 0 0, I 0, I 0, .slice none 0 0, I 0, I 0, I 0, I 0, I 0, I 0, .bool false]
 | _ => #[I 16777216, I 0, I 0, I 0, I 3, I 1, .slice (t 0).A 3 (t 0).c, I 3, I 3, .slice (t 0).B 9 (t 0).d, I 3, I 1, .slice (t 1).A 3 (t 1).c, I 3, I 3, .slice (t 1).B 9 (t 1).d, I 3, I 1, .slice (t 2).A 3 (t 2).c, I 3, I 3, .slice (t 2).B 9 (t 2).d, I 0, I 0, I 0, I 0, I 0, I 0, .bool false]
theorem yK {P : Program} {fn : Func} {p u : Tmp} {ty : TypeId} (h : fn.results = #[.cell p ty, .tmp u]) (tmps : Array Value) (w : World) (g : Nat) (cs : List Value) (d : TypeDesc)
 (hp : tmps.getD p undef = .pointer (some ⟨g, 0, none⟩)) (hg : w.rangeAt g 0 cs) (hu : P.underlying ty = some d) (hd : d.isRow = true) (hi : (P.info? ty).map (·.size) = some cs.length) :
 (results fn tmps).run P w = .ok (.tuple #[.agg cs.toArray, tmps.getD u undef]) w := by
 have h1 : tmps[p]?.getD undef = .pointer (some ⟨g, 0, none⟩) := by simpa using hp
 simp [results, h, h1, asAddr, run_loadVar_mid w g 0 ty cs d hg hu hd hi]
theorem Dy (A1 A2 : Option Addr) (w : World) (rx : Rd w A1 [0, 0, 0]) (rv : Rd w A2 [1677721600, 167772160, 16777216]) :
 Calls Try.prog 36 #[.slice A1 3 3, .slice A2 3 3] w fun e w' => ∃ t : Tr, e = .returned (.tuple #[.agg #[I 3, I 1, .slice t.A 3 t.c, I 3, I 3, .slice t.B 9 t.d], I 0]) ∧ t.x = [0, 0, 0] ∧ t.p = tY ∧ Ro w.heap.size w' t ∧ Below w.heap.size w w' := by
 refine (PR.Ht A1 A2 3 3 [0, 0, 0] [1677721600, 167772160, 16777216] w rx (by decide) rv (by decide) ⟨rfl, by decide, by decide, ?_, ?_, ?_⟩).mono ?_
 · intro j
   match j with
   | 0 | 1 | 2 => decide
   | j + 3 => simp
 · intro j
   match j with
   | 0 | 1 | 2 => decide
   | j + 3 => simp
 · intro j
   match j with
   | 0 | 1 | 2 => decide
   | j + 3 => simp
 · rintro e w' ⟨Ax, dx, Ap, dp, rfl, ox, hx, op, hp, hb⟩
   exact ⟨⟨Ax, dx, [0, 0, 0], Ap, dp, tY⟩, rfl, rfl, rfl, Ro.own ox op (Nat.le_refl _), hb⟩
end Go.Proofs.Ytnijhjbcjeohhaa.EE

namespace Go.Proofs.Ytnijhjbcjeohhaa.EE
open Go.RowKit Go.Proofs.Ytnijhjbcjeohhaa.KK Go.Proofs.af.aA Go.Proofs.af.aN Go.Proofs.af.aP
set_option linter.unusedVariables false
set_option linter.unusedSimpArgs false
abbrev six (w : World) (B o : Nat) (a b c d e f : Value) : World := (((((w.setCell ⟨B, o, none⟩ a).setCell ⟨B, o + 1, none⟩ b).setCell ⟨B, o + 2, none⟩ c).setCell ⟨B, o + 3, none⟩ d).setCell ⟨B, o + 4, none⟩ e).setCell ⟨B, o + 5, none⟩ f
theorem Kv : ∀ (vs pre rest : List Value), rest.length = vs.length → EC (pre ++ rest) pre.length vs = pre ++ vs := by
 intro vs
 induction vs with
 | nil => intro pre rest h; simp only [List.length_nil, List.length_eq_zero_iff] at h; subst h; rfl
 | cons v vs ih =>
   intro pre rest h
   cases rest with
   | nil => simp at h
   | cons r rest =>
     have := ih (pre ++ [v]) rest (by simpa using h)
     simpa [EC] using this
theorem Row.full {w : World} {B : Nat} {t : TypeId} {C : Array Value} (R : Row w B t C) (D : Array Value) (h : D.size = C.size) : Row (w.setCells B 0 D.toList) B t D := by
 obtain ⟨arr, h1, h2⟩ := KK.Row.setCells D.toList 0 w C R
 have h3 := Kv D.toList [] C.toList (by simp [h])
 simp only [List.nil_append, List.length_nil] at h3
 rw [h3] at h2
 have : arr = D := Array.toList_inj.mp h2
 rwa [this] at h1
def y5 : Array Value := pJ (fun _ => ⟨none, 0, [], none, 0, []⟩) 0
def Dj (t : Nat → Tr) (k : Nat) (u : Tr) : Nat → Tr := fun j => if j = k then u else t j
theorem Qr (t : Nat → Tr) (u : Tr) : ((((((pJ t 0).setIfInBounds 4 (I 3)).setIfInBounds 5 (I 1)).setIfInBounds 6 (.slice u.A 3 u.c)).setIfInBounds 7 (I 3)).setIfInBounds 8 (I 3)).setIfInBounds 9 (.slice u.B 9 u.d) = pJ (Dj t 0 u) 1 := by kernel_rfl
theorem Qq (t : Nat → Tr) (u : Tr) : ((((((pJ t 1).setIfInBounds 10 (I 3)).setIfInBounds 11 (I 1)).setIfInBounds 12 (.slice u.A 3 u.c)).setIfInBounds 13 (I 3)).setIfInBounds 14 (I 3)).setIfInBounds 15 (.slice u.B 9 u.d) = pJ (Dj t 1 u) 2 := by kernel_rfl
theorem Qp (t : Nat → Tr) (u : Tr) : ((((((pJ t 2).setIfInBounds 16 (I 3)).setIfInBounds 17 (I 1)).setIfInBounds 18 (.slice u.A 3 u.c)).setIfInBounds 19 (I 3)).setIfInBounds 20 (I 3)).setIfInBounds 21 (.slice u.B 9 u.d) = pJ (Dj t 2 u) 3 := by kernel_rfl
theorem _root_.Go.Proofs.Ytnijhjbcjeohhaa.KK.aS.six {w0 w : World} {L : List (TypeId × Array Value)} (h : aS w0 L w) {B : Nat} (hp : w0.heap.size + L.length ≤ B) (o : Nat) (a b c d e f : Value) : aS w0 L (EE.six w B o a b c d e f) :=
 (((((aS.set h (p := ⟨B, o, none⟩) hp a).set (p := ⟨B, o + 1, none⟩) hp b).set (p := ⟨B, o + 2, none⟩) hp c).set (p := ⟨B, o + 3, none⟩) hp d).set (p := ⟨B, o + 4, none⟩) hp e).set (p := ⟨B, o + 5, none⟩) hp f
theorem nO (w : World) (B o : Nat) (a b c d e f : Value) : w.grownBy (six w B o a b c d e f) (some B) :=
 bF (bF (bF (bF (bF (bF (dP _ _) _ _) _ _) _ _) _ _) _ _) _ _
theorem Ro.alloc {n0 : Nat} {w : World} {t : Tr} (h : Ro n0 w t) (o : Obj) : Ro n0 (w.alloc o) t := h.below ((Below.refl _ _).alloc (Nat.le_refl _) o)
theorem Ro.mono {n0 n1 : Nat} {w : World} {t : Tr} (h : Ro n0 w t) (hn : n1 ≤ n0) : Ro n1 w t := ⟨h.rw, fun ad e => Nat.le_trans hn (h.na ad e), fun ad e => Nat.le_trans hn (h.nb ad e)⟩
theorem rF {P : Program} {fn : Func} {p u : Tmp} {ty : TypeId} (h : fn.results = #[.cell p ty, .tmp u]) (tmps : Array Value) (w : World) (g : Nat) (C : Array Value) (d : TypeDesc)
 (hp : tmps.getD p undef = .pointer (some ⟨g, 0, none⟩)) (hg : w.rangeAt g 0 C.toList) (hu : P.underlying ty = some d) (hd : d.isRow = true) (hi : (P.info? ty).map (·.size) = some C.size) :
 (results fn tmps).run P w = .ok (.tuple #[.agg C, tmps.getD u undef]) w := by
 have := yK h tmps w g C.toList d hp hg hu hd (by simpa using hi)
 simpa using this
theorem Row.whole {w : World} {B : Nat} {t : TypeId} {C : Array Value} (R : Row w B t C) : w.rangeAt B 0 C.toList := Row.range R 0 _ (by simp)
theorem H9 (c : Cf) (w : World) (hm : c.may = true) : Calls Try.prog 15 #[.agg c.row] w fun x w' => ∃ t : Nat → Tr, x = .returned (.tuple #[.agg (pJ t 3), I 0]) ∧ (∀ j, j < 3 → (t j).x = [0, 0, 0] ∧ (t j).p = tY ∧ Ro w.heap.size w' (t j)) ∧ Below w.heap.size w w' := by
 have HM := Lib.hid hm
 have L : Hid (aS w [(24, c.row), (37, #[.int .i64 0, .int .i64 0, .int .i64 0, .int .i64 0, .int .i64 0, .int .i64 0, .slice none 0 0, .int .i64 0, .int .i64 0, .slice none 0 0, .int .i64 0, .int .i64 0, .slice none 0 0, .int .i64 0, .int .i64 0, .slice none 0 0, .int .i64 0, .int .i64 0, .slice none 0 0, .int .i64 0, .int .i64 0, .slice none 0 0, .int .i64 0, .int .i64 0, .int .i64 0, .int .i64 0, .int .i64 0, .int .i64 0, .bool false])] (((w.alloc (.cells c.row 24)).alloc (.cells #[.int .i64 0, .int .i64 0, .int .i64 0, .int .i64 0, .int .i64 0, .int .i64 0, .slice none 0 0, .int .i64 0, .int .i64 0, .slice none 0 0, .int .i64 0, .int .i64 0, .slice none 0 0, .int .i64 0, .int .i64 0, .slice none 0 0, .int .i64 0, .int .i64 0, .slice none 0 0, .int .i64 0, .int .i64 0, .slice none 0 0, .int .i64 0, .int .i64 0, .int .i64 0, .int .i64 0, .int .i64 0, .int .i64 0, .bool false] 37)))) := Lib.hid (((aS.none w).push (by simp) _ _).push (by simp) _ _)
 have LZ : Hid (((w.alloc (.cells c.row 24)).alloc (.cells #[.int .i64 0, .int .i64 0, .int .i64 0, .int .i64 0, .int .i64 0, .int .i64 0, .slice none 0 0, .int .i64 0, .int .i64 0, .slice none 0 0, .int .i64 0, .int .i64 0, .slice none 0 0, .int .i64 0, .int .i64 0, .slice none 0 0, .int .i64 0, .int .i64 0, .slice none 0 0, .int .i64 0, .int .i64 0, .slice none 0 0, .int .i64 0, .int .i64 0, .int .i64 0, .int .i64 0, .int .i64 0, .int .i64 0, .bool false] 37)).heap.size = w.heap.size + 2) := Lib.hid (by simp)
 clear hm
 go_enter Try.func15, Try.ntmps15
 go_upto_region 1 with fail
 generalize ((w.alloc (.cells c.row 24)).alloc (.cells #[.int .i64 0, .int .i64 0, .int .i64 0, .int .i64 0, .int .i64 0, .int .i64 0, .slice none 0 0, .int .i64 0, .int .i64 0, .slice none 0 0, .int .i64 0, .int .i64 0, .slice none 0 0, .int .i64 0, .int .i64 0, .slice none 0 0, .int .i64 0, .int .i64 0, .slice none 0 0, .int .i64 0, .int .i64 0, .slice none 0 0, .int .i64 0, .int .i64 0, .int .i64 0, .int .i64 0, .int .i64 0, .int .i64 0, .bool false] 37)) = w2 at L LZ ⊢
 have hc := L.out.r0.cell
 go_wp2_with fail
 refine (KP c _).mono ?_
 rintro x w3 ⟨rfl, hb⟩
 have L3 := Lib.hid (L.out.below hb)
 clear hb hc L
 rw [HM.out]
 have ZV : Hid (∀ w', (Instr.build 37 #[(0, .agg #[I 16777216, I 0, I 0, I 0])]).run Try.prog w' = .ok (.agg y5) w') := Lib.hid (fun w' => by kernel_rfl)
 have HT : Hid ((w3.alloc (.cells #[.int .i64 0, .int .i64 0, .int .i64 0, .int .i64 0, .int .i64 0, .int .i64 0, .slice none 0 0, .int .i64 0, .int .i64 0, .slice none 0 0, .int .i64 0, .int .i64 0, .slice none 0 0, .int .i64 0, .int .i64 0, .slice none 0 0, .int .i64 0, .int .i64 0, .slice none 0 0, .int .i64 0, .int .i64 0, .slice none 0 0, .int .i64 0, .int .i64 0, .int .i64 0, .int .i64 0, .int .i64 0, .int .i64 0, .bool false] 37)).there w3.heap.size 0 y5.size) := Lib.hid (by have h := Row.there (Row.new w3 37 #[.int .i64 0, .int .i64 0, .int .i64 0, .int .i64 0, .int .i64 0, .int .i64 0, .slice none 0 0, .int .i64 0, .int .i64 0, .slice none 0 0, .int .i64 0, .int .i64 0, .slice none 0 0, .int .i64 0, .int .i64 0, .slice none 0 0, .int .i64 0, .int .i64 0, .slice none 0 0, .int .i64 0, .int .i64 0, .slice none 0 0, .int .i64 0, .int .i64 0, .int .i64 0, .int .i64 0, .int .i64 0, .int .i64 0, .bool false]); exact h)
 have i37 : Hid ((Try.prog.info? 37).map (·.size) = some y5.size) := Lib.hid (by kernel_rfl)
 have one : Hid (y5.all (·.oneCell') = true) := Lib.hid (by kernel_rfl)
 have R4 : Hid (Row ((w3.alloc (.cells #[.int .i64 0, .int .i64 0, .int .i64 0, .int .i64 0, .int .i64 0, .int .i64 0, .slice none 0 0, .int .i64 0, .int .i64 0, .slice none 0 0, .int .i64 0, .int .i64 0, .slice none 0 0, .int .i64 0, .int .i64 0, .slice none 0 0, .int .i64 0, .int .i64 0, .slice none 0 0, .int .i64 0, .int .i64 0, .slice none 0 0, .int .i64 0, .int .i64 0, .int .i64 0, .int .i64 0, .int .i64 0, .int .i64 0, .bool false] 37)).setCells w3.heap.size 0 y5.toList) w3.heap.size 37 y5) := Lib.hid (Row.full (Row.new w3 37 #[.int .i64 0, .int .i64 0, .int .i64 0, .int .i64 0, .int .i64 0, .int .i64 0, .slice none 0 0, .int .i64 0, .int .i64 0, .slice none 0 0, .int .i64 0, .int .i64 0, .slice none 0 0, .int .i64 0, .int .i64 0, .slice none 0 0, .int .i64 0, .int .i64 0, .slice none 0 0, .int .i64 0, .int .i64 0, .slice none 0 0, .int .i64 0, .int .i64 0, .int .i64 0, .int .i64 0, .int .i64 0, .int .i64 0, .bool false]) y5 rfl)
 have L4 : Hid (aS w [(24, c.row), (37, #[.int .i64 0, .int .i64 0, .int .i64 0, .int .i64 0, .int .i64 0, .int .i64 0, .slice none 0 0, .int .i64 0, .int .i64 0, .slice none 0 0, .int .i64 0, .int .i64 0, .slice none 0 0, .int .i64 0, .int .i64 0, .slice none 0 0, .int .i64 0, .int .i64 0, .slice none 0 0, .int .i64 0, .int .i64 0, .slice none 0 0, .int .i64 0, .int .i64 0, .int .i64 0, .int .i64 0, .int .i64 0, .int .i64 0, .bool false])] ((w3.alloc (.cells #[.int .i64 0, .int .i64 0, .int .i64 0, .int .i64 0, .int .i64 0, .int .i64 0, .slice none 0 0, .int .i64 0, .int .i64 0, .slice none 0 0, .int .i64 0, .int .i64 0, .slice none 0 0, .int .i64 0, .int .i64 0, .slice none 0 0, .int .i64 0, .int .i64 0, .slice none 0 0, .int .i64 0, .int .i64 0, .slice none 0 0, .int .i64 0, .int .i64 0, .int .i64 0, .int .i64 0, .int .i64 0, .int .i64 0, .bool false] 37)).setCells w3.heap.size 0 y5.toList)) := Lib.hid (aS.app (L3.out.alloc _) (iH y5.toList 0 _) (fun g e => by injection e with e; subst e; exact L3.out.rows.le L3.out.be.size))
 have LB : Hid (w.heap.size + 2 ≤ w3.heap.size) := Lib.hid (L3.out.rows.le L3.out.be.size)
 go_upto_region 4 with (first
  | (with_reducible refine wpList_build rfl 37 #[(0, .tmp 10)] rfl #[(0, .agg #[I 16777216, I 0, I 0, I 0])] (by kernel_rfl) _ (ZV.out _) ?_)
  | (with_reducible refine wpList_store_mid rfl 37 (.tmp 4) (.tmp 11) rfl w3.heap.size 0 y5 rfl rfl HT.out i37.out one.out ?_))
 clear ZV HT i37 one L3
 generalize (w3.alloc (.cells #[.int .i64 0, .int .i64 0, .int .i64 0, .int .i64 0, .int .i64 0, .int .i64 0, .slice none 0 0, .int .i64 0, .int .i64 0, .slice none 0 0, .int .i64 0, .int .i64 0, .slice none 0 0, .int .i64 0, .int .i64 0, .slice none 0 0, .int .i64 0, .int .i64 0, .slice none 0 0, .int .i64 0, .int .i64 0, .slice none 0 0, .int .i64 0, .int .i64 0, .int .i64 0, .int .i64 0, .int .i64 0, .int .i64 0, .bool false] 37)).setCells w3.heap.size 0 y5.toList = w4 at R4 L4 ⊢
 generalize w3.heap.size = B at R4 LB ⊢
 go_wp2_with fail
 go_loopw [12] (fun i wl => ∃ (k : Nat) (t : Nat → Tr), k ≤ 3 ∧ i = .int .i64 k ∧ Hid (aS w [(24, c.row), (37, #[.int .i64 0, .int .i64 0, .int .i64 0, .int .i64 0, .int .i64 0, .int .i64 0, .slice none 0 0, .int .i64 0, .int .i64 0, .slice none 0 0, .int .i64 0, .int .i64 0, .slice none 0 0, .int .i64 0, .int .i64 0, .slice none 0 0, .int .i64 0, .int .i64 0, .slice none 0 0, .int .i64 0, .int .i64 0, .slice none 0 0, .int .i64 0, .int .i64 0, .int .i64 0, .int .i64 0, .int .i64 0, .int .i64 0, .bool false])] wl) ∧ Hid (Row wl B 37 (pJ t k)) ∧ Hid (∀ j, j < k → (t j).x = [0, 0, 0] ∧ (t j).p = tY ∧ Ro (B + 1) wl (t j))) (fun i _ => 3 - (intOf i).toNat)
 case atStart => exact ⟨0, (fun _ => ⟨none, 0, [], none, 0, []⟩), by omega, rfl, L4, R4, Lib.hid (fun j hj => by omega)⟩
 case round =>
  clear L4 R4
  obtain ⟨k, t, hk, rfl, L, R, T⟩ := hrel
  have mk : ∀ w', (Instr.makeSlice 29 (.int .i64 3) (.int .i64 3)).run Try.prog w' = .ok (.slice (some ⟨w'.heap.size, 0, none⟩) 3 3) (w'.alloc (.cells #[I 0, I 0, I 0] 22)) := fun w' => by
   have h := Bj w' 3 (by decide)
   rw [show madeCells #[I 0] 3 = #[I 0, I 0, I 0] from by kernel_rfl] at h
   exact h
  have RX : Hid (∀ w' : World, Rd ((w'.alloc (.cells #[I 0, I 0, I 0] 22)).alloc (.cells #[I 1677721600, I 167772160, I 16777216] 22)) (some ⟨w'.heap.size, 0, none⟩) [0, 0, 0]) := Lib.hid (fun w' => (Rd.new w' 22 [0, 0, 0] (by simp)).below ((Below.refl _ _).alloc (Nat.le_refl _) _))
  have RV : Hid (∀ w' : World, Rd ((w'.alloc (.cells #[I 0, I 0, I 0] 22)).alloc (.cells #[I 1677721600, I 167772160, I 16777216] 22)) (some ⟨w'.heap.size + 1, 0, none⟩) [1677721600, 167772160, 16777216]) := Lib.hid (fun w' => by
   have h := Rd.new (w'.alloc (.cells #[I 0, I 0, I 0] 22)) 22 [1677721600, 167772160, 16777216] (by simp)
   rw [World.size_alloc] at h
   exact h)
  obtain rfl | rfl | rfl | rfl : k = 3 ∨ k = 0 ∨ k = 1 ∨ k = 2 := by omega
  · clear mk RX RV
    have RA := Lib.hid (Row.whole R.out)
    have i37 : Hid ((Try.prog.info? 37).map (·.size) = some (pJ t 3).toList.length) := Lib.hid (by kernel_rfl)
    have xZ : Hid ((Try.prog.info? 37).map (·.size) = some (pJ t 3).size) := Lib.hid (by kernel_rfl)
    have one : Hid ((pJ t 3).all (·.oneCell') = true) := Lib.hid (by kernel_rfl)
    have HT : Hid (wr.there (w.heap.size + 1) 0 (pJ t 3).size) := Lib.hid (by have h := Row.there L.out.r1; exact h)
    go_wp2_with (first
     | (with_reducible refine wpList_load_mid rfl 37 (.tmp 4) rfl B 0 rfl (pJ t 3).toList _ RA.out Try.underlying37 rfl i37.out ?_)
     | (with_reducible refine wpList_store_mid rfl 37 (.tmp 2) (.tmp 25) rfl (w.heap.size + 1) 0 (pJ t 3) rfl rfl HT.out xZ.out one.out ?_))
    refine bodyPost_ret (rF rfl _ _ (w.heap.size + 1) (pJ t 3) _ rfl (World.rangeAt_setCells_same _ _ _ _ (by have h := HT.out; simpa using h)) Try.underlying37 rfl xZ.out) rfl ?_
    refine ⟨t, rfl, fun j hj => ⟨(T.out j hj).1, (T.out j hj).2.1, ((T.out j hj).2.2.grown (iH _ _ _) (by have := LB.out; omega)).mono (by have := LB.out; omega)⟩, KK.dF _ _ _ L.out.be (by omega)⟩
  · go_wp2_with fail
    refine (Dy _ _ _ (RX.out _) (RV.out _)).mono ?_
    rintro x w5 ⟨u, rfl, ux, up, uo, hb⟩
    have L5 := Lib.hid (((L.out.alloc _).alloc _).below hb)
    have R5 := Lib.hid (Row.below ((R.out.alloc _).alloc _) hb ((R.out.alloc _).alloc _).lt)
    have T5 : Hid (∀ j, j < 0 → (t j).x = [0, 0, 0] ∧ (t j).p = tY ∧ Ro (B + 1) w5 (t j)) := Lib.hid (fun j hj => ⟨(T.out j hj).1, (T.out j hj).2.1, (((T.out j hj).2.2.alloc _).alloc _).below hb⟩)
    have U5 : Hid (u.x = [0, 0, 0] ∧ u.p = tY ∧ Ro (B + 1) w5 u) := Lib.hid ⟨ux, up, uo.mono (by have := R.out.lt; simp; omega)⟩
    clear ux up uo hb L R T mk RX RV
    have c5 := R5.out.cell
    have f5 := R5.out.free
    simp only [pJ] at c5
    go_wp2
    go_roundw
    case rel =>
     refine ⟨0 + 1, Dj t 0 u, by omega, by go_num, Lib.hid (L5.out.six LB.out 4 _ _ _ _ _ _), Lib.hid ?_, Lib.hid ?_⟩
     · rw [← Qr]
       exact (((((R5.out.set 4 _).set 5 _).set 6 _).set 7 _).set 8 _).set 9 _
     · intro j hj
       by_cases h : j = 0
       · subst h
         exact ⟨U5.out.1, U5.out.2.1, U5.out.2.2.grown (nO _ _ 4 _ _ _ _ _ _) (Nat.lt_succ_self _)⟩
       · have h1 := T5.out j (by omega)
         have e : Dj t 0 u j = t j := if_neg h
         rw [e]
         exact ⟨h1.1, h1.2.1, h1.2.2.grown (nO _ _ 4 _ _ _ _ _ _) (Nat.lt_succ_self _)⟩
    case measure => simp [intOf]
  · go_wp2_with fail
    refine (Dy _ _ _ (RX.out _) (RV.out _)).mono ?_
    rintro x w5 ⟨u, rfl, ux, up, uo, hb⟩
    have L5 := Lib.hid (((L.out.alloc _).alloc _).below hb)
    have R5 := Lib.hid (Row.below ((R.out.alloc _).alloc _) hb ((R.out.alloc _).alloc _).lt)
    have T5 : Hid (∀ j, j < 1 → (t j).x = [0, 0, 0] ∧ (t j).p = tY ∧ Ro (B + 1) w5 (t j)) := Lib.hid (fun j hj => ⟨(T.out j hj).1, (T.out j hj).2.1, (((T.out j hj).2.2.alloc _).alloc _).below hb⟩)
    have U5 : Hid (u.x = [0, 0, 0] ∧ u.p = tY ∧ Ro (B + 1) w5 u) := Lib.hid ⟨ux, up, uo.mono (by have := R.out.lt; simp; omega)⟩
    clear ux up uo hb L R T mk RX RV
    have c5 := R5.out.cell
    have f5 := R5.out.free
    simp only [pJ] at c5
    go_wp2
    go_roundw
    case rel =>
     refine ⟨1 + 1, Dj t 1 u, by omega, by go_num, Lib.hid (L5.out.six LB.out 10 _ _ _ _ _ _), Lib.hid ?_, Lib.hid ?_⟩
     · rw [← Qq]
       exact (((((R5.out.set 10 _).set 11 _).set 12 _).set 13 _).set 14 _).set 15 _
     · intro j hj
       by_cases h : j = 1
       · subst h
         exact ⟨U5.out.1, U5.out.2.1, U5.out.2.2.grown (nO _ _ 10 _ _ _ _ _ _) (Nat.lt_succ_self _)⟩
       · have h1 := T5.out j (by omega)
         have e : Dj t 1 u j = t j := if_neg h
         rw [e]
         exact ⟨h1.1, h1.2.1, h1.2.2.grown (nO _ _ 10 _ _ _ _ _ _) (Nat.lt_succ_self _)⟩
    case measure => simp [intOf]
  · go_wp2_with fail
    refine (Dy _ _ _ (RX.out _) (RV.out _)).mono ?_
    rintro x w5 ⟨u, rfl, ux, up, uo, hb⟩
    have L5 := Lib.hid (((L.out.alloc _).alloc _).below hb)
    have R5 := Lib.hid (Row.below ((R.out.alloc _).alloc _) hb ((R.out.alloc _).alloc _).lt)
    have T5 : Hid (∀ j, j < 2 → (t j).x = [0, 0, 0] ∧ (t j).p = tY ∧ Ro (B + 1) w5 (t j)) := Lib.hid (fun j hj => ⟨(T.out j hj).1, (T.out j hj).2.1, (((T.out j hj).2.2.alloc _).alloc _).below hb⟩)
    have U5 : Hid (u.x = [0, 0, 0] ∧ u.p = tY ∧ Ro (B + 1) w5 u) := Lib.hid ⟨ux, up, uo.mono (by have := R.out.lt; simp; omega)⟩
    clear ux up uo hb L R T mk RX RV
    have c5 := R5.out.cell
    have f5 := R5.out.free
    simp only [pJ] at c5
    go_wp2
    go_roundw
    case rel =>
     refine ⟨2 + 1, Dj t 2 u, by omega, by go_num, Lib.hid (L5.out.six LB.out 16 _ _ _ _ _ _), Lib.hid ?_, Lib.hid ?_⟩
     · rw [← Qp]
       exact (((((R5.out.set 16 _).set 17 _).set 18 _).set 19 _).set 20 _).set 21 _
     · intro j hj
       by_cases h : j = 2
       · subst h
         exact ⟨U5.out.1, U5.out.2.1, U5.out.2.2.grown (nO _ _ 16 _ _ _ _ _ _) (Nat.lt_succ_self _)⟩
       · have h1 := T5.out j (by omega)
         have e : Dj t 2 u j = t j := if_neg h
         rw [e]
         exact ⟨h1.1, h1.2.1, h1.2.2.grown (nO _ _ 16 _ _ _ _ _ _) (Nat.lt_succ_self _)⟩
    case measure => simp [intOf]
end Go.Proofs.Ytnijhjbcjeohhaa.EE

namespace Go.Proofs.Ytnijhjbcjeohhaa.EE
open Go.RowKit Go.Proofs.Ytnijhjbcjeohhaa.KK Go.Proofs.af.aA Go.Proofs.af.aN Go.Proofs.af.aP
set_option linter.unusedVariables false
set_option linter.unusedSimpArgs false
def Rq (q : Int) : Bool := decide (q < 0) || decide (q > 1000)
theorem Rd.part {w : World} {b o : Nat} {t : TypeId} {C : Array Value} {l : List Int} (R : Row w b t C) (hl : l.length ≤ 1000) (h : ∀ j x, l[j]? = some x → C[o + j]? = some (I x)) : Rd w (some ⟨b, o, none⟩) l := by
 refine ⟨rfl, by show l.length ≤ _; omega, fun hp => ⟨_, rfl, fun j x hx => ?_⟩⟩
 refine ⟨[I x], by first | rfl | (show _ ≤ _; omega) | trivial, rfl, fun k u hu => ?_⟩
 have hk : k = 0 := by
  cases k with
  | zero => rfl
  | succ k => simp at hu
 subst hk
 simp at hu
 subst hu
 have h1 : (Kd.int .i64).sz = 1 := rfl
 have ea : ∀ n, (⟨b, o, none⟩ : Addr).add n = ⟨b, o + n, none⟩ := fun n => by unfold Addr.add; split <;> simp_all
 rw [h1, Nat.mul_one, Nat.add_zero, ea, R.cell]
 exact h j x hx
end Go.Proofs.Ytnijhjbcjeohhaa.EE

namespace Go.Proofs.Ytnijhjbcjeohhaa.EE
open Go.RowKit Go.Proofs.Ytnijhjbcjeohhaa.KK Go.Proofs.af.aA Go.Proofs.af.aN Go.Proofs.af.aP
set_option linter.unusedVariables false
set_option linter.unusedSimpArgs false
abbrev adk (w : World) (base : Nat) (v : Value) (l : List Int) : Prop := w.ownsRow base 2 1 v l.length (l.map I)
end Go.Proofs.Ytnijhjbcjeohhaa.EE

namespace Go.Proofs.Ytnijhjbcjeohhaa.EE
open Go.RowKit Go.Proofs.Ytnijhjbcjeohhaa.KK Go.Proofs.af.aA Go.Proofs.af.aN Go.Proofs.af.aP
set_option linter.unusedVariables false
set_option linter.unusedSimpArgs false
structure Wd (w : World) (e : Es) (l : List Int) (v : Value) (wl : World) : Prop where
 out : Row wl (w.heap.size + 1) 52 #[v]
 own : adk wl (w.heap.size + 2) v l
 est : Row wl w.heap.size 37 e.R
 be : Below w.heap.size w wl
section
variable {w wl w1 w2 : World} {e : Es} {l : List Int} {v v' : Value}
theorem Wd.size (h : Wd w e l v wl) : w.heap.size + 2 ≤ wl.heap.size := h.out.lt
theorem Wd.below (h : Wd w e l v wl) (hb : Below wl.heap.size wl w1) : Wd w e l v w1 :=
 ⟨h.out.below hb h.out.lt, mg h.own fun k hk => hb.block k (h.own.lt k hk).2, h.est.below hb h.est.lt, h.be.trans (hb.mono h.be.size)⟩
theorem Wd.alloc (h : Wd w e l v wl) (o : Obj) : Wd w e l v (wl.alloc o) := h.below ((Below.refl _ _).alloc (Nat.le_refl _) o)
end
def Tr.words (t : Tr) : List Int := (t.x ++ t.p.take 3) ++ [t.p.getD 4 0, t.p.getD 5 0, t.p.getD 8 0]
def Es.w0 (e : Es) : List Int := [e.q0, e.q1, e.q2, e.q3]
def Es.wd (e : Es) : Nat → List Int
 | 0 => e.w0
 | 1 => e.w0 ++ e.t0.words
 | 2 => (e.w0 ++ e.t0.words) ++ e.t1.words
 | _ => ((e.w0 ++ e.t0.words) ++ e.t1.words) ++ e.t2.words
def Es.w7 (e : Es) : List Int := [e.steps, e.fJ, e.f0, e.f1, e.f2, e.f3, if e.sat then 1 else 0]
end Go.Proofs.Ytnijhjbcjeohhaa.EE

namespace Go.Proofs.Ytnijhjbcjeohhaa.EE
open Go.RowKit Go.Proofs.Ytnijhjbcjeohhaa.KK Go.Proofs.af.aA Go.Proofs.af.aN Go.Proofs.af.aP
set_option linter.unusedVariables false
set_option linter.unusedSimpArgs false
def PU : Cf := ⟨2097152, 16777216, 262144, 16777216, 16777216, 268435456⟩
def Gv : Sm := ⟨true, 0, 0, 0, 0, 0, 0, false, 0, false, 0, 0, 0⟩
def en0 : En := ⟨16777216, 0, 0, 0, [0, 0, 0], tY, [0, 0, 0], tY, [0, 0, 0], tY, 0, 0, 0, 0, 0, 0, false⟩
theorem wU : Gd en0 := by
 refine ⟨fun j hj => ?_, fun j hj => ?_, by decide, by decide, by decide, by decide, fun k hk => ?_, fun k hk => ?_⟩
 · obtain rfl | rfl | rfl : j = 0 ∨ j = 1 ∨ j = 2 := by omega
   all_goals rfl
 · obtain rfl | rfl | rfl : j = 0 ∨ j = 1 ∨ j = 2 := by omega
   all_goals exact PR.kW _
 · obtain rfl | rfl | rfl | rfl : k = 0 ∨ k = 1 ∨ k = 2 ∨ k = 3 := by omega
   all_goals decide
 · obtain rfl | rfl | rfl | rfl : k = 0 ∨ k = 1 ∨ k = 2 ∨ k = 3 := by omega
   all_goals decide
def OL : En := En.ahead PU en0 (a3 0 0 0)
theorem OJ : OL.x0 = [0, 0, 0] ∧ OL.x1 = [0, 0, 0] ∧ OL.x2 = [0, 0, 0] ∧ OL.sat = false := by decide +kernel
theorem GY : kX PU en0 Gv (OL.cnt true) :=
 C9 PU en0 Gv en0 OL (a3 0 0 0) wU (by decide) (by decide) (.inl ⟨rfl, rfl, rfl⟩) ⟨fun _ => rfl, fun h => by cases h⟩ wU.ahead
end Go.Proofs.Ytnijhjbcjeohhaa.EE

namespace Go.Proofs.Ytnijhjbcjeohhaa.OG
open Go Go.RowKit Go.Proofs.Ytnijhjbcjeohhaa.KK
section
variable {P : Program} {ops : Array Oper} {Q : Exit → Act → World → Prop}
def upd (l : Nat → Bool) (i : Nat) : Nat → Bool := fun k => if k = i then true else l k
def deps (o : Oper) (l : Nat → Bool) : Prop := ∀ e ∈ o.after.toList, Region.binds .any e = true → l e.on = true
def Closed (ops : Array Oper) (l : Nat → Bool) : Prop := ∀ j o, ops[j]? = some o → l j = true → deps o l
theorem Closed.off {l : Nat → Bool} (hc : Closed ops l) (j k : Nat) (h : ((ops[j]?).map fun o => o.after.toList.any (fun e => Region.binds .any e && decide (e.on = k))) = some true) (h0 : l k = false) : l j = false := by
 cases hj : l j with
 | false => rfl
 | true =>
   exfalso
   cases ho : ops[j]? with
   | none => rw [ho] at h; cases h
   | some o =>
     rw [ho] at h
     simp only [Option.map_some, Option.some.injEq, List.any_eq_true, Bool.and_eq_true, decide_eq_true_eq] at h
     obtain ⟨e, he, h2, rfl⟩ := h
     have := hc j o ho hj e he h2
     rw [h0] at this
     cases this
def Steps (P : Program) (ops : Array Oper) (Q : Exit → Act → World → Prop) (J : (Nat → Bool) → Act → World → Prop) : Nat → List Oper → Prop
 | _, [] => True
 | k, o :: r => (∀ l a w, J l a w → Closed ops l → l k = false → deps o l → (Region.wanted o (yielded ops a.tmps) = true ∧ o.wp P a w (fun a' w' => J (upd l k) a' w') Q) ∨ (Region.wanted o (yielded ops a.tmps) = false ∧ J (upd l k) (a.put o.dst undef) w)) ∧ Steps P ops Q J (k + 1) r
theorem deps.get {o : Oper} {l : Nat → Bool} (h : deps o l) (k : Nat) (hk : o.after.toList.any (fun e => Region.binds .any e && decide (e.on = k)) = true) : l k = true := by
 rw [List.any_eq_true] at hk
 obtain ⟨e, he, h2⟩ := hk
 simp only [Bool.and_eq_true, decide_eq_true_eq] at h2
 obtain ⟨h3, rfl⟩ := h2
 exact h e he h3
theorem Steps.nil {J : (Nat → Bool) → Act → World → Prop} {k : Nat} : Steps P ops Q J k [] := trivial
theorem Steps.cons {J : (Nat → Bool) → Act → World → Prop} {k : Nat} {o : Oper} {r : List Oper} (hg : o.guard = none)
 (h : ∀ l a w (K : Act → World → Prop), Hid (∀ a' w', J (upd l k) a' w' → K a' w') → J l a w → Closed ops l → l k = false → deps o l → o.wp P a w K Q) (hr : Steps P ops Q J (k + 1) r) : Steps P ops Q J k (o :: r) :=
 ⟨fun l a w hJ hc hl hd => .inl ⟨by simp [Region.wanted, hg], h l a w _ (Lib.hid fun _ _ h => h) hJ hc hl hd⟩, hr⟩
theorem Steps.get {J : (Nat → Bool) → Act → World → Prop} : ∀ {r : List Oper} {k : Nat}, Steps P ops Q J k r → ∀ i o, r[i]? = some o →
 ∀ l a w, J l a w → Closed ops l → l (k + i) = false → deps o l → (Region.wanted o (yielded ops a.tmps) = true ∧ o.wp P a w (fun a' w' => J (upd l (k + i)) a' w') Q) ∨ (Region.wanted o (yielded ops a.tmps) = false ∧ J (upd l (k + i)) (a.put o.dst undef) w)
 | [], _, _, i, o, h => by simp at h
 | x :: r, k, hs, 0, o, h => by
   simp at h; subst h; exact hs.1
 | x :: r, k, hs, i + 1, o, h => by
   have := hs.2.get i o (by simpa using h)
   rwa [show k + 1 + i = k + (i + 1) from by omega] at this
def back (ops : Array Oper) : Bool := (List.range ops.size).all fun i => ((ops[i]?).map fun o => o.after.toList.all fun e => !Region.binds .any e || decide (e.on < i)).getD true
theorem Kt {listed : Array Bool} (hb : back ops = true) (hsz : listed.size = ops.size) (hr : Region.ready .any ops listed = []) : ∀ n i, i < n → i < ops.size → listed.getD i false = true := by
 intro n
 induction n with
 | zero => intro i h; omega
 | succ n ih =>
   intro i hi ho
   cases hc : listed.getD i false with
   | true => rfl
   | false =>
     exfalso
     have hm : i ∈ Region.ready .any ops listed := by
      refine mem_ready.2 ⟨?_, ops[i], by simp [ho], fun e he hbi => ?_⟩
      · have hlt : i < listed.size := by omega
        simpa [hlt] using hc
      · unfold back at hb
        rw [List.all_eq_true] at hb
        have h1 := hb i (by simpa using ho)
        rw [show ops[i]? = some ops[i] from by simp [ho]] at h1
        simp only [Option.map_some, Option.getD_some, List.all_eq_true, Bool.or_eq_true, Bool.not_eq_true', decide_eq_true_eq] at h1
        have h2 := (h1 e (by simpa using he)).resolve_left (by simp [hbi])
        exact ih e.on (by omega) (by omega)
     rw [hr] at hm
     cases hm
theorem count_set : ∀ (l : List Bool) (i : Nat), l[i]? = some false → (l.set i true).count false + 1 = l.count false
 | [], i, h => by simp at h
 | b :: l, 0, h => by simp at h; subst h; simp
 | b :: l, i + 1, h => by
   have := count_set l i (by simpa using h)
   cases b <;> simp <;> omega
theorem Rt (J : (Nat → Bool) → Act → World → Prop) (hb : back ops = true) (hs : Steps P ops Q J 0 ops.toList)
 (he : ∀ l a w, J l a w → (∀ i, i < ops.size → l i = true) → Q .normal a w) :
 ∀ (fuel : Nat) (listed : Array Bool) (a : Act) (w : World), listed.size = ops.size → listed.toList.count false ≤ fuel → Closed ops (fun k => listed.getD k false) → J (fun k => listed.getD k false) a w → wpAny P .any ops Q fuel listed a w := by
 intro fuel
 induction fuel with
 | zero =>
   intro listed a w hsz hc hcl hJ
   have hall : ∀ i, i < ops.size → listed.getD i false = true := by
    intro i hi
    cases hx : listed.getD i false with
    | true => rfl
    | false =>
      exfalso
      have hlt : i < listed.size := by omega
      have hm : false ∈ listed.toList := by
       have : listed[i] = false := by simpa [hlt] using hx
       rw [← this]; simp
      have := List.count_pos_iff.2 hm
      omega
   refine ⟨?_, he _ _ _ hJ hall⟩
   cases hr : Region.ready .any ops listed with
   | nil => rfl
   | cons i t =>
     have hm : i ∈ Region.ready .any ops listed := by rw [hr]; simp
     obtain ⟨h0, o, ho, _⟩ := mem_ready.1 hm
     have hlt := (Array.getElem?_eq_some_iff.1 ho).1
     have := hall i hlt
     have hlt' : i < listed.size := by omega
     simp [hlt'] at h0 this
     rw [h0] at this; cases this
 | succ fuel ih =>
   intro listed a w hsz hc hcl hJ
   refine ⟨fun hr => he _ _ _ hJ fun i hi => Kt hb hsz hr (i + 1) i (by omega) hi, fun i hi => ?_⟩
   obtain ⟨h0, o, ho, hd⟩ := mem_ready.1 hi
   have hlt := (Array.getElem?_eq_some_iff.1 ho).1
   have hlt' : i < listed.size := by omega
   have h0' : listed.getD i false = false := by simpa [hlt'] using h0
   have hst := hs.get i o (by simpa using ho) (fun k => listed.getD k false) a w hJ hcl (by simpa using h0') (fun e he hbi => hd e (by simpa using he) hbi)
   have hup : upd (fun k => listed.getD k false) (0 + i) = fun k => (listed.setIfInBounds i true).getD k false := by
    funext k
    unfold upd
    simp only [Nat.zero_add]
    split
    · rename_i h; subst h; simp [hlt']
    · rename_i h; simp [Array.getD_eq_getD_getElem?, Array.getElem?_setIfInBounds_ne (Ne.symm h)]
   have hnext : ∀ a' w', J (upd (fun k => listed.getD k false) (0 + i)) a' w' → wpAny P .any ops Q fuel (listed.setIfInBounds i true) a' w' := by
    intro a' w' h
    rw [hup] at h
    refine ih _ _ _ (by simpa using hsz) ?_ ?_ h
    rotate_left
    · rw [← hup]
      intro j o' ho' hj e he hbi
      by_cases hji : j = 0 + i
      · have : o' = o := by
         rw [hji, Nat.zero_add, ho] at ho'
         injection ho' with ho'
         exact ho'.symm
        subst this
        unfold upd
        split
        · rfl
        · exact hd e (by simpa using he) hbi
      · have hj' : listed.getD j false = true := by
         unfold upd at hj
         rwa [if_neg hji] at hj
        unfold upd
        split
        · rfl
        · exact hcl j o' ho' hj' e he hbi
    have : listed.toList[i]? = some false := by
     have : listed[i] = false := by simpa [hlt'] using h0'
     simp [hlt', this]
    have := count_set _ _ this
    simp
    omega
   unfold wpOp
   simp only [ho]
   rcases hst with ⟨hw, h⟩ | ⟨hw, h⟩
   · simp only [hw, if_true]
     exact .inl (Oper.wp_mono hnext h)
   · simp only [hw, Bool.false_eq_true, if_false]
     exact hnext _ _ h
theorem fF {id : Nat} {a : Act} {w : World} (hm : P.follows .mixedOrders = true) (J : (Nat → Bool) → Act → World → Prop) (hb : back ops = true)
 (h0 : J (fun _ => false) a w.drew) (hs : Steps P ops Q J 0 ops.toList) (he : ∀ l a w, J l a w → (∀ i, i < ops.size → l i = true) → Q .normal a w) : (Code.region id ops true).wp P Q a w := by
 refine wp_region_any hm ?_
 refine Rt J hb hs he _ _ _ _ (by simp) ?_ ?_ ?_
 · rw [Array.toList_replicate, List.count_replicate]; simp
 · intro j o _ hj
   exfalso
   have : (Array.replicate ops.size false).getD j false = false := by simp [Array.getD_eq_getD_getElem?, Array.getElem?_replicate]; split <;> rfl
   simp only [this] at hj
   cases hj
 · rw [show (fun k => (Array.replicate ops.size false).getD k false) = fun _ => false from by funext k; simp [Array.getD_eq_getD_getElem?, Array.getElem?_replicate]; split <;> rfl]
   exact h0
end
theorem gV {P : Program} {ops : Array Oper} {rest : List Oper} {op : Oper} {a : Act} {w : World} {Q : Exit → Act → World → Prop} (hw : Region.wanted op (yielded ops a.tmps) = true) (ty : TypeId) (x : Operand) (ho : op.op = .load ty x)
 (b o : Nat) (hx : a.eval x = .pointer (some ⟨b, o, none⟩)) (cs : List Value) (d : TypeDesc) (hc : w.rangeAt b o cs) (hu : P.underlying ty = some d) (hd : d.isRow = true) (hi : (P.info? ty).map (·.size) = some cs.length)
 (h : wpList P ops Q rest (a.put op.dst (.agg cs.toArray)) w) : wpList P ops Q (op :: rest) a w :=
 wpList_step fun K hK => by rw [if_pos hw]; exact wp_load_mid ty x ho b o hx cs d hc hu hd hi (hK _ _ h)
theorem dA {g : Nat} : ∀ (vs : List Value) (o : Nat) (w : World) (k : Nat), k ≠ g → (w.setCells g o vs).heap[k]? = w.heap[k]?
 | [], _, _, _, _ => rfl
 | v :: r, o, w, k, hk => by
   rw [World.setCells, dA r (o + 1) _ k hk]
   exact Below.heap_setCell w ⟨g, o, none⟩ v k hk
end Go.Proofs.Ytnijhjbcjeohhaa.OG

namespace Go.Proofs.Ytnijhjbcjeohhaa.EE
open Go.RowKit Go.Proofs.Ytnijhjbcjeohhaa.KK Go.Proofs.Ytnijhjbcjeohhaa.OG Go.Proofs.af.aA Go.Proofs.af.aN Go.Proofs.af.aP
set_option linter.unusedVariables false
set_option linter.unusedSimpArgs false
def PY (t : Tr) (b : Nat) : Prop := (∀ ad, t.A = some ad → ad.block ≠ b) ∧ (∀ ad, t.B = some ad → ad.block ≠ b)
theorem Ro.VW {n b : Nat} {w : World} {t : Tr} (h : Ro n w t) (hb : b < n) : PY t b := ⟨fun ad e => by have := h.na ad e; omega, fun ad e => by have := h.nb ad e; omega⟩
theorem Rw.VW {w : World} {t : Tr} (h : Rw w t) (hx : 0 < t.x.length) (hp : 0 < t.p.length) {b : Nat} (hb : w.heap.size ≤ b) : PY t b :=
 ⟨fun ad e => by have := PR.Rd.blk h.x ad e hx; omega, fun ad e => by have := PR.Rd.blk h.p ad e hp; omega⟩
theorem Rw.cells {w : World} {t : Tr} (h : Rw w t) {b o : Nat} (ha : PY t b) (vs : List Value) : Rw (w.setCells b o vs) t :=
 ⟨Rd.gr h.x (iH vs o w) ha.1, h.xc, Rd.gr h.p (iH vs o w) ha.2, h.pd⟩
def Got (on o7 o8 : Bool) (N : En) (e : Es) (b7 b8 : Nat) (w : World) : Prop := on = true → e.nu = N ∧ ∀ j, j < 3 → Rw w (e.ax j) ∧ (o7 = true → PY (e.ax j) b7) ∧ (o8 = true → PY (e.ax j) b8)
section
variable {on o7 o8 : Bool} {N : En} {e : Es} {b7 b8 : Nat} {w w' : World}
theorem Got.mk (he : e.nu = N) (hr : ∀ j, j < 3 → Ro w.heap.size w' (e.ax j)) (h7 : o7 = true → b7 < w.heap.size) (h8 : o8 = true → b8 < w.heap.size) : Got on o7 o8 N e b7 b8 w' :=
 fun _ => ⟨he, fun j hj => ⟨(hr j hj).rw, fun k => (hr j hj).VW (h7 k), fun k => (hr j hj).VW (h8 k)⟩⟩
end
end Go.Proofs.Ytnijhjbcjeohhaa.EE

namespace Go.Proofs.Ytnijhjbcjeohhaa.EE
open Go.RowKit Go.Proofs.Ytnijhjbcjeohhaa.KK Go.Proofs.af.aA Go.Proofs.af.aN Go.Proofs.af.aP
set_option linter.unusedVariables false
set_option linter.unusedSimpArgs false
def ER (t : Nat → Tr) : Es := ⟨16777216, 0, 0, 0, t 0, t 1, t 2, 0, 0, 0, 0, 0, 0, false⟩
theorem UY (t : Nat → Tr) (h : ∀ j, j < 3 → (t j).x = [0, 0, 0] ∧ (t j).p = tY) : pJ t 3 = (ER t).R := by
 have l9 : tY.length = 9 := PR.kW _
 simp [pJ, ER, Es.R, Es.row, h 0 (by decide), h 1 (by decide), h 2 (by decide), l9]
theorem Qs (t : Nat → Tr) (h : ∀ j, j < 3 → (t j).x = [0, 0, 0] ∧ (t j).p = tY) : (ER t).nu = en0 := by
 simp [ER, Es.nu, en0, h 0 (by decide), h 1 (by decide), h 2 (by decide)]
theorem VI : Gd (OL.cnt true) := wU.ahead.cnt true
end Go.Proofs.Ytnijhjbcjeohhaa.EE

namespace Go.Proofs.Ytnijhjbcjeohhaa.EE
open Go.RowKit Go.Proofs.Ytnijhjbcjeohhaa.KK Go.Proofs.af.aA Go.Proofs.af.aN Go.Proofs.af.aP
set_option linter.unusedVariables false
set_option linter.unusedSimpArgs false
structure Tg where
 r : Int
 c : Int
 A : Option Addr
 cx : Nat
 x : List Int
 r' : Int
 c' : Int
 B : Option Addr
 cp : Nat
 p : List Int
structure Eg where
 q0 : Int
 q1 : Int
 q2 : Int
 q3 : Int
 t0 : Tg
 t1 : Tg
 t2 : Tg
 steps : Int
 fJ : Int
 f0 : Int
 f1 : Int
 f2 : Int
 f3 : Int
 sat : Bool
abbrev Eg.row (e : Eg) : Array Value :=
 #[I e.q0, I e.q1, I e.q2, I e.q3,
   I e.t0.r, I e.t0.c, .slice e.t0.A e.t0.x.length e.t0.cx, I e.t0.r', I e.t0.c', .slice e.t0.B e.t0.p.length e.t0.cp,
   I e.t1.r, I e.t1.c, .slice e.t1.A e.t1.x.length e.t1.cx, I e.t1.r', I e.t1.c', .slice e.t1.B e.t1.p.length e.t1.cp,
   I e.t2.r, I e.t2.c, .slice e.t2.A e.t2.x.length e.t2.cx, I e.t2.r', I e.t2.c', .slice e.t2.B e.t2.p.length e.t2.cp,
   I e.steps, I e.fJ, I e.f0, I e.f1, I e.f2, I e.f3, .bool e.sat]
def Eg.R (e : Eg) : Array Value := e.row
def Eg.t (e : Eg) : Nat → Tg
 | 0 => e.t0
 | 1 => e.t1
 | _ => e.t2
def Tg.ok (t : Tg) : Bool := decide (PR.wC t.r t.c t.x t.r' t.c' t.p) && decide (t.r = 3)
def Eg.n0 (e : Eg) : Bool := ((decide (e.steps < 0) || decide (e.steps > 1099511627776)) || decide (e.fJ < 0)) || decide (e.fJ > 1000)
def Eg.o4 (e : Eg) : Bool := !Rq e.f0 && (!Rq e.f1 && (!Rq e.f2 && !Rq e.f3))
def Eg.t3 (e : Eg) : Bool := e.t0.ok && (e.t1.ok && e.t2.ok)
def Eg.ok (e : Eg) : Bool := !e.n0 && (e.o4 && (e.t3 && PQ.wI (PQ.at4 e.q0 e.q1 e.q2 e.q3) 4))
theorem UN (l : List Int) (i k : Nat) (hi : i < l.length) (hl : l.length ≤ 1000) : PQ.aY.l0 (k + 1) l i = if mO (l.getD i 0) = true then some false else PQ.aY.l0 k l ((i + 1 : Nat) : Int) := by
 have h1 : (i : Int) < (l.length : Int) := by omega
 have h2 : wrap64 ((i : Int) + 1) = ((i + 1 : Nat) : Int) := by unfold wrap64; omega
 rw [PQ.aY.l0, if_pos h1, if_pos (by omega), h2]
 have e : rd l (i : Int) = l.getD i 0 := by simp [rd]
 rw [e]
 unfold mO
 generalize l.getD i 0 = q
 by_cases a : q < 1
 · rw [if_pos a, if_pos (by simp; omega)]
 · rw [if_neg a]
   by_cases b : q > 17179869184
   · rw [if_pos b, if_pos (by simp; omega)]
   · rw [if_neg b, if_neg (by simp; omega)]
theorem XP (c : Cf) : PQ.aY.f 7 c.dt c.acc c.bias c.dJ c.dY c.gate = some c.may := by
 unfold PQ.aY.f
 have s : ∀ (i k : Nat), i < 6 → PQ.aY.l0 (k + 1) [c.dt, c.acc, c.bias, c.dJ, c.dY, c.gate] i = if mO ([c.dt, c.acc, c.bias, c.dJ, c.dY, c.gate].getD i 0) = true then some false else PQ.aY.l0 k [c.dt, c.acc, c.bias, c.dJ, c.dY, c.gate] ((i + 1 : Nat) : Int) := fun i k hi => UN _ i k (by simpa using hi) (by simp)
 have e6 : PQ.aY.l0 (0 + 1) [c.dt, c.acc, c.bias, c.dJ, c.dY, c.gate] ((6 : Nat) : Int) = some true := by rw [PQ.aY.l0, if_neg (by simp)]
 have h := s 0 6 (by omega)
 rw [s 1 5 (by omega), s 2 4 (by omega), s 3 3 (by omega), s 4 2 (by omega), s 5 1 (by omega), e6] at h
 refine h.trans ?_
 simp only [Cf.may, Cf.l, List.any_cons, List.any_nil, List.getD_cons_zero, List.getD_cons_succ]
 generalize mO c.dt = a, mO c.acc = b, mO c.bias = d, mO c.dJ = e, mO c.dY = f, mO c.gate = g
 revert a b d e f g
 decide
theorem uX (c : Cf) (w : World) : Calls Try.prog 14 #[.agg c.row] w fun x w' => x = .returned (.bool c.may) ∧ Below w.heap.size w w' :=
 PQ.aY.calls 7 c.dt c.acc c.bias c.dJ c.dY c.gate _ w (XP c)
end Go.Proofs.Ytnijhjbcjeohhaa.EE

namespace Go.Proofs.Ytnijhjbcjeohhaa.EE
open Go.RowKit Go.Proofs.Ytnijhjbcjeohhaa.KK Go.Proofs.af.aA Go.Proofs.af.aN Go.Proofs.af.aP
set_option linter.unusedVariables false
set_option linter.unusedSimpArgs false
theorem BQ.counts {miss : Bool} {dt : Int} {n : En} {g0 g1 g2 a0 a1 a2 : Int} {n1 : En} {y : Nat → Int} (h : BQ miss dt n g0 g1 g2 a0 a1 a2 n1 y) : n1.steps = n.steps ∧ n1.fJ = n.fJ ∧ ∀ k, n1.off k = n.off k := by
 rcases h with ⟨_, rfl, _⟩ | ⟨_, _, _, _, _, _, _, _, _, _, _, _, _, _, _, _, _, _, _, _, _, _, _, _, _, rfl, _⟩
 · exact ⟨rfl, rfl, fun _ => rfl⟩
 · exact ⟨rfl, rfl, fun _ => rfl⟩
theorem nC (c : Cf) (n : En) (y : Nat → Int) : (En.ahead c n y).steps = n.steps ∧ (En.ahead c n y).fJ = n.fJ ∧ ∀ k, (En.ahead c n y).off k = n.off k := ⟨rfl, rfl, fun _ => rfl⟩
def Cnt (has : Bool) (a b : Int) : Prop := (has = false → b = a) ∧ (has = true → b = 0 ∨ b = min (a + 1) 1000)
theorem Fe (tk : Bool) (n : Int) : jd tk n = 0 ∨ jd tk n = min (n + 1) 1000 := by
 cases tk
 · exact .inr rfl
 · exact .inl rfl
theorem uz.counts {n n' : En} {i k : Nat} {z r gate : Int} (hk : k < 4) (h : uz n i k z r gate n') : n'.steps = n.steps ∧ n'.fJ = n.fJ ∧ (∀ j, j < 4 → j ≠ k → n'.off j = n.off j) ∧ Cnt true (n.off k) (n'.off k) := by
 obtain ⟨X, P, tk, fl, _, rfl⟩ := h
 refine ⟨?_, ?_, fun j hj hne => ?_, (fun e => by cases e), fun _ => ?_⟩
 · unfold En.held; rfl
 · unfold En.held; rfl
 · rw [vJ n i k j hj hk, if_neg (Ne.symm hne)]
 · rw [vJ n i k k hk hk, if_pos rfl]
   exact Fe tk _
def Sm.has (s : Sm) : Nat → Bool
 | 0 => s.hasB
 | _ => s.pK
theorem zN.counts {c : Cf} {n : En} {s : Sm} {n' : En} (h : zN c n s n') : n'.steps = n.steps ∧ n'.fJ = n.fJ ∧ (s.missing = true → ∀ k, n'.off k = n.off k) ∧ (s.missing = false → ∀ k, k < 4 → Cnt (s.has k) (n.off k) (n'.off k)) := by
 cases hm : s.missing
 case true =>
  obtain rfl := h.miss hm
  exact ⟨rfl, rfl, fun _ _ => rfl, fun e => by cases e⟩
 obtain ⟨m1, gk, h1, h2, h3, h4, h5, h6⟩ := h.go hm
 have B : m1.steps = n.steps ∧ m1.fJ = n.fJ ∧ (∀ j, j < 4 → j ≠ 0 → m1.off j = n.off j) ∧ Cnt s.hasB (n.off 0) (m1.off 0) := by
  cases hb : s.hasB
  · obtain rfl := h2 hb
    exact ⟨rfl, rfl, fun _ _ _ => rfl, fun _ => rfl, fun e => by cases e⟩
  · exact (h1 hb).counts (by decide)
 cases hg : s.pK
 · have e1 := h6 hg 0 (by decide)
   have e2 := h6 hg 1 (by decide)
   have e3 := h6 hg 2 (by decide)
   have : n' = m1 := by rw [← h4, ← h3, e3, e2, e1]
   subst this
   refine ⟨B.1, B.2.1, (fun e => by cases e), fun _ k hk => ?_⟩
   match k, hk with
   | 0, _ => exact B.2.2.2
   | k + 1, hk =>
     rw [B.2.2.1 (k + 1) hk (by omega)]
     show Cnt s.pK _ _
     rw [hg]
     exact ⟨fun _ => rfl, fun e => by cases e⟩
 · have c1 := (h5 hg 0 (by decide)).counts (by decide)
   have c2 := (h5 hg 1 (by decide)).counts (by decide)
   have c3 := (h5 hg 2 (by decide)).counts (by decide)
   simp only [Nat.zero_add, Nat.reduceAdd] at c1 c2 c3
   rw [h3] at c1
   rw [h4] at c3
   refine ⟨c3.1.trans (c2.1.trans (c1.1.trans B.1)), c3.2.1.trans (c2.2.1.trans (c1.2.1.trans B.2.1)), (fun e => by cases e), fun _ k hk => ?_⟩
   obtain rfl | rfl | rfl | rfl : k = 0 ∨ k = 1 ∨ k = 2 ∨ k = 3 := by omega
   · rw [c3.2.2.1 0 (by decide) (by decide), c2.2.2.1 0 (by decide) (by decide), c1.2.2.1 0 (by decide) (by decide)]
     exact B.2.2.2
   · rw [c3.2.2.1 1 (by decide) (by decide), c2.2.2.1 1 (by decide) (by decide)]
     show Cnt s.pK _ _
     rw [hg, ← B.2.2.1 1 (by decide) (by decide)]
     exact c1.2.2.2
   · rw [c3.2.2.1 2 (by decide) (by decide)]
     show Cnt s.pK _ _
     rw [hg, ← B.2.2.1 2 (by decide) (by decide), ← c1.2.2.1 2 (by decide) (by decide)]
     exact c2.2.2.2
   · show Cnt s.pK _ _
     rw [hg, ← B.2.2.1 3 (by decide) (by decide), ← c1.2.2.1 3 (by decide) (by decide), ← c2.2.2.1 3 (by decide) (by decide)]
     exact c3.2.2.2
theorem Eh (c : Cf) (n : En) (s : Sm) (G : Gd n) (hb : 0 < c.dJ) (hn : 0 < c.dY) : ∃ n', kX c n s n' ∧ Gd n' ∧ n'.steps = min (n.steps + 1) 1099511627776 ∧ n'.fJ = (if s.missing = true then min (n.fJ + 1) 1000 else 0) ∧
 (s.missing = true → ∀ k, n'.off k = n.off k) ∧ (s.missing = false → ∀ k, k < 4 → Cnt (s.has k) (n.off k) (n'.off k)) := by
 obtain ⟨n1, y, T⟩ := yG s.missing c.dt n s.g0 s.g1 s.g2 s.a0 s.a1 s.a2
 obtain ⟨n3, H, G3⟩ := y8 c s (T.gd G).ahead (n := En.ahead c n1 y)
 have t := T.counts
 have h := H.counts
 refine ⟨n3.cnt s.missing, C9 c n s n1 n3 y G hb hn T H G3, G3.cnt _, ?_, ?_, fun m k => ?_, fun m k hk => ?_⟩
 · show min (n3.steps + 1) _ = _
   rw [h.1, (nC c n1 y).1, t.1]
 · show (if s.missing = true then min (n3.fJ + 1) 1000 else 0) = _
   rw [h.2.1, (nC c n1 y).2.1, t.2.1]
 · have := h.2.2.1 m k
   rw [(nC c n1 y).2.2, t.2.2] at this
   exact this
 · have := h.2.2.2 m k hk
   rw [(nC c n1 y).2.2, t.2.2] at this
   exact this
end Go.Proofs.Ytnijhjbcjeohhaa.EE

namespace Go.Proofs.Ytnijhjbcjeohhaa.EE
open Go.RowKit Go.Proofs.Ytnijhjbcjeohhaa.KK Go.Proofs.af.aA Go.Proofs.af.aN Go.Proofs.af.aP
set_option linter.unusedVariables false
set_option linter.unusedSimpArgs false
theorem P8 (w : World) (z y D E : Array Value) (t u : TypeId) (hD : D.size = z.size) (hE : E.size = y.size) :
 Row ((((w.alloc (.cells z t)).alloc (.cells y u)).setCells w.heap.size 0 D.toList).setCells (w.heap.size + 1) 0 E.toList) w.heap.size t D ∧
 Row ((((w.alloc (.cells z t)).alloc (.cells y u)).setCells w.heap.size 0 D.toList).setCells (w.heap.size + 1) 0 E.toList) (w.heap.size + 1) u E ∧
 Below w.heap.size w ((((w.alloc (.cells z t)).alloc (.cells y u)).setCells w.heap.size 0 D.toList).setCells (w.heap.size + 1) 0 E.toList) := by
 have r1 := (Row.new w t z).alloc (.cells y u)
 have r2 := Row.new (w.alloc (.cells z t)) u y
 rw [World.size_alloc] at r2
 have s1 := Row.full r1 D hD
 have s2 : Row (((w.alloc (.cells z t)).alloc (.cells y u)).setCells w.heap.size 0 D.toList) (w.heap.size + 1) u y := (OG.dA _ _ _ _ (by omega)).trans r2
 refine ⟨(OG.dA _ _ _ _ (by omega)).trans s1, Row.full s2 E hE, ?_⟩
 exact KK.dF _ _ _ (KK.dF _ _ _ (((Below.refl _ _).alloc (Nat.le_refl _) _).alloc (by simp) _) (Nat.le_refl _)) (by omega)
theorem JX (w : World) (z y D E : Array Value) (t u : TypeId) (hD : D.size = z.size) (hE : E.size = y.size) :
 ((w.alloc (.cells z t)).alloc (.cells y u)).there w.heap.size 0 D.size ∧ (((w.alloc (.cells z t)).alloc (.cells y u)).setCells w.heap.size 0 D.toList).there (w.heap.size + 1) 0 E.size := by
 have r1 := Row.there ((Row.new w t z).alloc (.cells y u))
 have r2 := Row.new (w.alloc (.cells z t)) u y
 rw [World.size_alloc] at r2
 have r3 : Row (((w.alloc (.cells z t)).alloc (.cells y u)).setCells w.heap.size 0 D.toList) (w.heap.size + 1) u y := (OG.dA _ _ _ _ (by omega)).trans r2
 rw [hD, hE]
 exact ⟨r1, Row.there r3⟩
theorem oU (w : World) (z D : Array Value) (t : TypeId) (hD : D.size = z.size) :
 Row ((w.alloc (.cells z t)).setCells w.heap.size 0 D.toList) w.heap.size t D ∧ Below w.heap.size w ((w.alloc (.cells z t)).setCells w.heap.size 0 D.toList) :=
 ⟨Row.full (Row.new w t z) D hD, KK.dF _ _ _ ((Below.refl _ _).alloc (Nat.le_refl _) _) (Nat.le_refl _)⟩
theorem Jh {c : Cf} (h : c.may = true) : 0 < c.dJ ∧ 0 < c.dY ∧ 0 < c.dt := by
 have h2 : ∀ q ∈ c.l, mO q = false := by
  simp only [Cf.may, Bool.not_eq_true', List.any_eq_false] at h
  intro q hq
  simpa using h q hq
 have p : ∀ q, mO q = false → 0 < q := fun q hq => by
  unfold mO at hq
  simp at hq
  omega
 exact ⟨p _ (h2 _ (by simp [Cf.l])), p _ (h2 _ (by simp [Cf.l])), p _ (h2 _ (by simp [Cf.l]))⟩
theorem Es.eg (s : Es) : ∃ e : Eg, e.R = s.R := ⟨⟨s.q0, s.q1, s.q2, s.q3, ⟨3, 1, s.t0.A, s.t0.c, s.t0.x, 3, 3, s.t0.B, s.t0.d, s.t0.p⟩, ⟨3, 1, s.t1.A, s.t1.c, s.t1.x, 3, 3, s.t1.B, s.t1.d, s.t1.p⟩, ⟨3, 1, s.t2.A, s.t2.c, s.t2.x, 3, 3, s.t2.B, s.t2.d, s.t2.p⟩, s.steps, s.fJ, s.f0, s.f1, s.f2, s.f3, s.sat⟩, rfl⟩
end Go.Proofs.Ytnijhjbcjeohhaa.EE

namespace Go.Proofs.Ytnijhjbcjeohhaa.EE
open Go.RowKit Go.Proofs.Ytnijhjbcjeohhaa.KK Go.Proofs.af.aA Go.Proofs.af.aN Go.Proofs.af.aP
set_option linter.unusedVariables false
set_option linter.unusedSimpArgs false
def Tg.same (a b : Tg) : Bool := decide ((a.r = b.r ∧ a.c = b.c ∧ a.x = b.x) ∧ (a.r' = b.r' ∧ a.c' = b.c' ∧ a.p = b.p))
def Eg.qs (a b : Eg) : Bool := (a.q0 == b.q0) && ((a.q1 == b.q1) && ((a.q2 == b.q2) && ((a.q3 == b.q3) && true)))
def Eg.os (a b : Eg) : Bool := (a.f0 == b.f0) && ((a.f1 == b.f1) && ((a.f2 == b.f2) && ((a.f3 == b.f3) && true)))
def Eg.ts (a b : Eg) : Bool := a.t0.same b.t0 && (a.t1.same b.t1 && a.t2.same b.t2)
def Eg.same (a b : Eg) : Bool := a.ts b && (a.qs b && ((a.steps == b.steps) && ((a.fJ == b.fJ) && (a.os b && (a.sat == b.sat)))))
end Go.Proofs.Ytnijhjbcjeohhaa.EE

namespace Go.Proofs.Ytnijhjbcjeohhaa.BB
open Go.RowKit Go.Proofs.Ytnijhjbcjeohhaa.KK Go.Proofs.Ytnijhjbcjeohhaa.EE Go.Proofs.af.aA Go.Proofs.af.aN Go.Proofs.af.aP
set_option linter.unusedVariables false
set_option linter.unusedSimpArgs false
section
variable {F : Fence} {n : Nat} {P : Program} {ops : Array Oper} {rest : List Oper} {op : Oper} {a : Act} {w : World} {Q : Exit → Act → World → Prop}
theorem qM (hg : op.guard = none) (ty : TypeId) (x : Operand) (ho : op.op = .load ty x)
 (b o : Nat) (hx : a.eval x = .pointer (some ⟨b, o, none⟩)) (cs : List Value) (d : TypeDesc) (hc : w.rangeAt b o cs) (hu : P.underlying ty = some d) (hd : d.isRow = true) (hi : (P.info? ty).map (·.size) = some cs.length)
 (h : wpListIn F n P ops Q rest (a.put op.dst (.agg cs.toArray)) w) : wpListIn F n P ops Q (op :: rest) a w := by
 refine wpListIn_plain hg fun K hK => ?_
 have h2 : op.wp P a w K Q := wp_load_mid ty x ho b o hx cs d hc hu hd hi (hK _ _ h)
 unfold Oper.wp at h2
 unfold Oper.wpIn
 refine ⟨by simp [Oper.about, ho], ?_⟩
 rw [Oper.semAt_plain F _ _ (by rw [ho]; intro c hc'; cases hc')]
 unfold execOp at h2 ⊢
 simp only [ho, hx, Instr.loadAt, Instr.sureAddr, Sem.run_bind, Sem.run_pure, Result.andThen_ok, run_loadVar_mid w b o ty cs d hc hu hd hi] at h2 ⊢
 exact h2
theorem lK (hg : op.guard = none) (ty : TypeId) (x y : Operand) (ho : op.op = .store ty x y)
 (b o : Nat) (cells : Array Value) (hx : a.eval x = .pointer (some ⟨b, o, none⟩)) (hy : a.eval y = .agg cells)
 (ht : w.there b o cells.size) (hi : (P.info? ty).map (·.size) = some cells.size) (h1 : cells.all (·.oneCell') = true)
 (h : wpListIn F n P ops Q rest (a.put op.dst undef) (w.setCells b o cells.toList)) : wpListIn F n P ops Q (op :: rest) a w := by
 refine wpListIn_plain hg fun K hK => ?_
 have h2 : op.wp P a w K Q := wp_store_mid ty x y ho b o cells hx hy ht hi h1 (hK _ _ h)
 unfold Oper.wp at h2
 unfold Oper.wpIn
 refine ⟨by simp [Oper.about, ho], ?_⟩
 rw [Oper.semAt_plain F _ _ (by rw [ho]; intro c hc'; cases hc')]
 unfold execOp at h2 ⊢
 simp only [ho, hx, hy, Instr.storeAt, Instr.sureAddr, Sem.run_bind, Sem.run_pure, Result.andThen_ok, run_storeVar_mid w b o ty cells ht hi h1] at h2 ⊢
 exact h2
end
theorem Ef (c : Cf) (e : Es) (A : Option Addr) (n cp : Nat) (w : World) : Calls Try.prog 52 #[.agg c.row, .agg e.R, .slice A n cp] w fun x w' => x = .returned (.func (.func 79) #[] #[.pointer (some ⟨w.heap.size + 1 + 1, 0, none⟩), .pointer (some ⟨w.heap.size, 0, none⟩), .pointer (some ⟨w.heap.size + 1, 0, none⟩)]) ∧ w' = (((w.alloc (.cells c.row 24)).alloc (.cells e.R 37)).alloc (.cells #[.slice A n cp] 57)) := by
 go_enter Try.func52, Try.ntmps52
 go_wp2
 go_ret
 exact ⟨rfl, rfl⟩
theorem zx (w : World) : Calls Try.prog 50 #[] w fun x w' => x = .returned (.agg PU.row) ∧ Below w.heap.size w w' := by
 go_enter Try.func50, Try.ntmps50
 go_wp2
 exact bodyPost_ret (v := .agg PU.row) (by simp [results, Try.results50, go_sem]; exact ⟨rfl, rfl, rfl, rfl, rfl, rfl⟩) rfl ⟨rfl, (Below.refl _ _).alloc (Nat.le_refl _) _⟩
theorem Rd.keep {w w' : World} {A : Option Addr} {l : List Int} (h : Rd w A l) (hk : ∀ ad, A = some ad → ad.block < w.heap.size → w'.heap[ad.block]? = w.heap[ad.block]?) : Rd w' A l :=
 ⟨h.1, h.2.1, fun hp => by
   obtain ⟨ad, e, hc⟩ := h.2.2 hp
   refine ⟨ad, e, fun j x hx => ?_⟩
   obtain ⟨c, p, hr, hcell⟩ := hc j x hx
   refine ⟨c, p, hr, fun i u hu => ?_⟩
   have hx := hcell i u hu
   have hb := qJ ad (j * (Kd.int .i64).sz + i)
   have hl := cell_lt hx
   rw [hb] at hl
   have e2 : w'.cell? (ad.add (j * (Kd.int .i64).sz + i)) = w.cell? (ad.add (j * (Kd.int .i64).sz + i)) := World.cell?_of_block (by rw [hb]; exact hk ad e hl)
   rw [e2]
   exact hx⟩
theorem Rw.keep {w w' : World} {t : Tr} (h : Rw w t) (hA : ∀ ad, t.A = some ad → ad.block < w.heap.size → w'.heap[ad.block]? = w.heap[ad.block]?) (hB : ∀ ad, t.B = some ad → ad.block < w.heap.size → w'.heap[ad.block]? = w.heap[ad.block]?) : Rw w' t :=
 ⟨Rd.keep h.x hA, h.xc, Rd.keep h.p hB, h.pd⟩
structure nR (w : World) (A : Option Addr) (l : List Sm) : Prop where
 len : l.length ≤ 1000000
 at_ : 0 < l.length → ∃ b o, A = some ⟨b, o, none⟩ ∧ b < w.heap.size ∧ ∀ j s, l[j]? = some s → w.rangeAt b (o + j * 13) s.R.toList
theorem uZ {w w' : World} {b o : Nat} {cs : List Value} (h : w.rangeAt b o cs) (hk : w'.heap[b]? = w.heap[b]?) : w'.rangeAt b o cs := fun j v hj => by
 rw [World.cell?_of_block (show w'.heap[(⟨b, o + j, none⟩ : Addr).block]? = w.heap[(⟨b, o + j, none⟩ : Addr).block]? from hk)]
 exact h j v hj
theorem nR.keep {w w' : World} {A : Option Addr} {l : List Sm} (h : nR w A l) (hs : w.heap.size ≤ w'.heap.size) (hk : ∀ ad, A = some ad → ad.block < w.heap.size → w'.heap[ad.block]? = w.heap[ad.block]?) : nR w' A l :=
 ⟨h.len, fun hp => by
   obtain ⟨b, o, rfl, hb, hc⟩ := h.at_ hp
   exact ⟨b, o, rfl, Nat.lt_of_lt_of_le hb hs, fun j s hj => uZ (hc j s hj) (hk _ rfl hb)⟩⟩
theorem nR.below {w w' : World} {A : Option Addr} {l : List Sm} (h : nR w A l) (hb : Below w.heap.size w w') : nR w' A l := h.keep hb.size (fun ad _ hl => hb.block _ hl)
end Go.Proofs.Ytnijhjbcjeohhaa.BB

namespace Go.Proofs.Ytnijhjbcjeohhaa.BB
open Go.RowKit Go.Proofs.Ytnijhjbcjeohhaa.KK Go.Proofs.Ytnijhjbcjeohhaa.EE Go.Proofs.af.aA Go.Proofs.af.aN Go.Proofs.af.aP
set_option linter.unusedVariables false
set_option linter.unusedSimpArgs false
def yv (n : En) : Array Value := #[I (n.x0.getD 0 0), I (n.x1.getD 0 0), I (n.x2.getD 0 0)]
structure Rounds (log : List Sm) (N : Nat → En) (l be : Nat) (J : Nat → World → Prop) (U : World → Nat → Prop) (P : Nat → Prop) : Prop where
 lt : ∀ k W b, J k W → U W b → b < W.heap.size
 ne : ∀ k W b, J k W → U W b → ¬ P b
 below : ∀ k W W', J k W → Below W.heap.size W W' → J k W' ∧ ∀ b, U W' b → U W b
 cells : ∀ k W vs, J k W → J k (W.setCells be 0 vs) ∧ ∀ b, U (W.setCells be 0 vs) b → U W b
 round : ∀ k (x : Es) W, k < log.length → J k W → x.nu = N (k + 1) → (∀ j, j < 3 → Rw W (x.ax j)) → YieldAt Fence.wide 2 Try.prog l #[.agg x.R, .agg (yv (N (k + 1)))] W fun e W' =>
  e = .returned (.bool true) ∧ J (k + 1) W' ∧ W.heap.size ≤ W'.heap.size ∧ (∀ b, b < W.heap.size → ¬ U W b → W'.heap[b]? = W.heap[b]?) ∧ (∀ b, U W' b → U W b ∨ W.heap.size ≤ b)
theorem Hy (c : Cf) (log : List Sm) (A : Option Addr) (cp : Nat) (N : Nat → En) (l bl bc be : Nat) (J : Nat → World → Prop) (U : World → Nat → Prop) (P : Nat → Prop) (W : World) (e0 : Es)
 (hG : ∀ k, k ≤ log.length → Gd (N k)) (hS : ∀ k s, log[k]? = some s → kX c (N k) s (N (k + 1))) (hR : Rounds log N l be J U P) (hP : P bl ∧ P bc ∧ P be ∧ (0 < log.length → ∀ ad, A = some ad → P ad.block)) (hne : be ≠ bl ∧ be ≠ bc ∧ (0 < log.length → ∀ ad, A = some ad → ad.block ≠ be))
 (r57 : Row W bl 57 #[.slice A log.length cp]) (r24 : Row W bc 24 c.row) (r37 : Row W be 37 e0.R) (he : e0.nu = N 0) (hax : ∀ j, j < 3 → Rw W (e0.ax j)) (hap : ∀ j, j < 3 → ∀ b, U W b → PY (e0.ax j) b) (hl : nR W A log) (h0 : J 0 W) :
 Calls Try.prog 79 #[.func (.yield l) #[] #[], .pointer (some ⟨bl, 0, none⟩), .pointer (some ⟨bc, 0, none⟩), .pointer (some ⟨be, 0, none⟩)] W fun x W' => x = .returned (.tuple #[]) ∧ J log.length W' := by
 have HG := Lib.hid hG
 have HS := Lib.hid hS
 have HR := Lib.hid hR
 have HP := Lib.hid hP
 have Xn := Lib.hid hne
 have F0 := Lib.hid (And.intro r57 (And.intro r24 (And.intro r37 (And.intro he (And.intro hax (And.intro hap (And.intro hl h0)))))))
 have hlen : Hid (log.length ≤ 1000000) := Lib.hid hl.len
 clear hG hS hR hP hne he hax hap hl h0 r57 r24 r37
 go_enter Try.func79, Try.ntmps79
 have hb : ∀ i, W.cell? ⟨bl, i, none⟩ = (#[.slice A log.length cp] : Array Value)[i]? := F0.out.1.cell
 go_wp2
 clear hb
 go_loopw [11] (fun i wr => ∃ (k : Nat) (ek : Es), k ≤ log.length ∧ i = .int .i64 k ∧ Hid (Row wr bl 57 #[.slice A log.length cp] ∧ Row wr bc 24 c.row ∧ Row wr be 37 ek.R ∧ ek.nu = N k ∧ (∀ j, j < 3 → Rw wr (ek.ax j)) ∧ (∀ j, j < 3 → ∀ b, U wr b → PY (ek.ax j) b) ∧ nR wr A log ∧ J k wr)) (fun i _ => log.length - (intOf i).toNat)
 case atStart => exact ⟨0, e0, by omega, rfl, F0⟩
 case round =>
  clear F0
  obtain ⟨k, ek, hk, rfl, F⟩ := hrel
  obtain rfl | hlt : k = log.length ∨ k < log.length := by omega
  · go_wp2
    go_end0
    exact ⟨rfl, F.out.2.2.2.2.2.2.2⟩
  · obtain ⟨s, hs⟩ : ∃ s, log[k]? = some s := ⟨_, List.getElem?_eq_getElem hlt⟩
    obtain ⟨lb, lo, rfl, hlb, hla⟩ := F.out.2.2.2.2.2.2.1.at_ (by omega)
    have RS := Lib.hid (hla k s hs)
    have HST := Lib.hid (HS.out k s hs)
    have fO := Lib.hid hlt
    have HL := hlen.out
    have g0 : (0 : Int) ≤ (k : Int) := by omega
    have g1 : (k : Int) < (log.length : Int) := by omega
    clear hla hlb hs hlt hk
    have hd : decide ((k : Int) < (log.length : Int)) = true := decide_eq_true g1
    have i46 : Hid ((Try.prog.info? 46).map (·.size) = some s.R.toList.length) := Lib.hid (by kernel_rfl)
    have X3 : Hid ((Try.prog.info? 46).map (·.size) = some s.R.size) := Lib.hid (by kernel_rfl)
    have Tn : Hid (s.R.all (·.oneCell') = true) := Lib.hid (by kernel_rfl)
    have TN := Lib.hid (oU wr #[.bool false, .int .i64 0, .int .i64 0, .int .i64 0, .int .i64 0, .int .i64 0, .int .i64 0, .bool false, .int .i64 0, .bool false, .int .i64 0, .int .i64 0, .int .i64 0] s.R 46 rfl)
    have TH : Hid ((wr.alloc (.cells #[.bool false, .int .i64 0, .int .i64 0, .int .i64 0, .int .i64 0, .int .i64 0, .int .i64 0, .bool false, .int .i64 0, .bool false, .int .i64 0, .int .i64 0, .int .i64 0] 46)).there wr.heap.size 0 s.R.size) := Lib.hid (by have h := Row.there (Row.new wr 46 #[.bool false, .int .i64 0, .int .i64 0, .int .i64 0, .int .i64 0, .int .i64 0, .int .i64 0, .bool false, .int .i64 0, .bool false, .int .i64 0, .int .i64 0, .int .i64 0]); exact h)
    go_upto_region 3 with (first | with_reducible refine OG.gV rfl 46 (.tmp 13) rfl lb (lo + k * 13) rfl s.R.toList _ RS.out Try.underlying46 rfl i46.out ?_ | with_reducible refine wpList_store_mid rfl 46 (.tmp 6) (.tmp 14) rfl wr.heap.size 0 s.R rfl rfl TH.out X3.out Tn.out ?_)
    clear TH RS hd Tn X3 g0 g1 HL
    generalize (wr.alloc (.cells #[.bool false, .int .i64 0, .int .i64 0, .int .i64 0, .int .i64 0, .int .i64 0, .int .i64 0, .bool false, .int .i64 0, .bool false, .int .i64 0, .int .i64 0, .int .i64 0] 46)).setCells wr.heap.size 0 s.R.toList = w1 at TN ⊢
    have R46 := Lib.hid TN.out.1
    have B1 := Lib.hid TN.out.2
    clear TN
    generalize hz : wr.heap.size = z at R46 B1 ⊢
    have HZ := Lib.hid hz
    clear hz
    have RC : Hid (Row w1 bc 24 c.row) := Lib.hid (F.out.2.1.below B1.out (by have := F.out.2.1.lt; have := HZ.out; omega))
    have RE : Hid (Row w1 be 37 ek.R) := Lib.hid (F.out.2.2.1.below B1.out (by have := F.out.2.2.1.lt; have := HZ.out; omega))
    have ST : Hid (Calls Try.prog 16 #[.agg c.row, .agg ek.R, .agg s.R] w1 fun x w' => ∃ e' : Es, e'.nu = N (k + 1) ∧ x = .returned (.tuple #[.agg e'.R, .agg (yv (N (k + 1)))]) ∧ (∀ j, j < 3 → Ro w1.heap.size w' (e'.ax j)) ∧ Below w1.heap.size w1 w') := Lib.hid (HST.out ek w1 F.out.2.2.2.1 (fun j hj => (F.out.2.2.2.2.1 j hj).below (by rw [HZ.out]; exact B1.out)))
    have hc : ∀ i, w1.cell? ⟨bc, i, none⟩ = c.row[i]? := RC.out.cell
    have Y0 := Lib.hid (Row.whole RE.out)
    have YZ := Lib.hid (Row.whole R46.out)
    have i37 : Hid ((Try.prog.info? 37).map (·.size) = some ek.R.toList.length) := Lib.hid (by kernel_rfl)
    go_wp2_with (first | with_reducible refine OG.gV rfl 37 (.tmp 3) rfl be 0 rfl ek.R.toList _ Y0.out Try.underlying37 rfl i37.out ?_ | with_reducible refine OG.gV rfl 46 (.tmp 6) rfl z 0 rfl s.R.toList _ YZ.out Try.underlying46 rfl i46.out ?_)
    refine ST.out.mono ?_
    rintro x w2 ⟨e', hn, rfl, hr, hb⟩
    have B2 : Hid (Below z wr w2) := Lib.hid (B1.out.trans (hb.mono (by have h := B1.out.size; have h2 := HZ.out; omega)))
    have RO : Hid (∀ j, j < 3 → Ro w1.heap.size w2 (e'.ax j)) := Lib.hid hr
    have HN := Lib.hid hn
    have SZ : Hid (z ≤ w1.heap.size) := Lib.hid (by have h := B1.out.size; have h2 := HZ.out; omega)
    clear hb hr hn hc Y0 YZ i37 i46 ST RC RE R46 HST
    generalize w1.heap.size = z1 at RO SZ
    clear B1
    clear w1
    have EY : Hid (yv (N (k + 1)) = #[I ((N (k + 1)).x0.getD 0 0), I ((N (k + 1)).x1.getD 0 0), I ((N (k + 1)).x2.getD 0 0)]) := Lib.hid rfl
    generalize (N (k + 1)).x0.getD 0 0 = y0 at EY
    generalize (N (k + 1)).x1.getD 0 0 = y1 at EY
    generalize (N (k + 1)).x2.getD 0 0 = y2 at EY
    rw [EY.out]
    have TN := Lib.hid (P8 w2 #[.int .i64 0, .int .i64 0, .int .i64 0, .int .i64 0, .int .i64 0, .int .i64 0, .slice none 0 0, .int .i64 0, .int .i64 0, .slice none 0 0, .int .i64 0, .int .i64 0, .slice none 0 0, .int .i64 0, .int .i64 0, .slice none 0 0, .int .i64 0, .int .i64 0, .slice none 0 0, .int .i64 0, .int .i64 0, .slice none 0 0, .int .i64 0, .int .i64 0, .int .i64 0, .int .i64 0, .int .i64 0, .int .i64 0, .bool false] #[.int .i64 0, .int .i64 0, .int .i64 0] e'.R #[I y0, I y1, I y2] 37 42 rfl rfl)
    have TH := Lib.hid (JX w2 #[.int .i64 0, .int .i64 0, .int .i64 0, .int .i64 0, .int .i64 0, .int .i64 0, .slice none 0 0, .int .i64 0, .int .i64 0, .slice none 0 0, .int .i64 0, .int .i64 0, .slice none 0 0, .int .i64 0, .int .i64 0, .slice none 0 0, .int .i64 0, .int .i64 0, .slice none 0 0, .int .i64 0, .int .i64 0, .slice none 0 0, .int .i64 0, .int .i64 0, .int .i64 0, .int .i64 0, .int .i64 0, .int .i64 0, .bool false] #[.int .i64 0, .int .i64 0, .int .i64 0] e'.R #[I y0, I y1, I y2] 37 42 rfl rfl)
    have i37 : Hid ((Try.prog.info? 37).map (·.size) = some e'.R.size) := Lib.hid (by kernel_rfl)
    have one : Hid (e'.R.all (·.oneCell') = true) := Lib.hid (by kernel_rfl)
    go_upto_region 4 with (first | with_reducible refine wpList_store_mid rfl 37 (.tmp 7) (.tmp 20) rfl w2.heap.size 0 e'.R rfl rfl TH.out.1 i37.out one.out ?_ | with_reducible refine wpList_store_mid rfl 42 (.tmp 8) (.tmp 21) rfl (w2.heap.size + 1) 0 #[I y0, I y1, I y2] rfl rfl TH.out.2 (by kernel_rfl) (by kernel_rfl) ?_)
    clear TH i37 one
    generalize (((w2.alloc (.cells #[.int .i64 0, .int .i64 0, .int .i64 0, .int .i64 0, .int .i64 0, .int .i64 0, .slice none 0 0, .int .i64 0, .int .i64 0, .slice none 0 0, .int .i64 0, .int .i64 0, .slice none 0 0, .int .i64 0, .int .i64 0, .slice none 0 0, .int .i64 0, .int .i64 0, .slice none 0 0, .int .i64 0, .int .i64 0, .slice none 0 0, .int .i64 0, .int .i64 0, .int .i64 0, .int .i64 0, .int .i64 0, .int .i64 0, .bool false] 37)).alloc (.cells #[.int .i64 0, .int .i64 0, .int .i64 0] 42)).setCells w2.heap.size 0 e'.R.toList).setCells (w2.heap.size + 1) 0 #[I y0, I y1, I y2].toList = w3 at TN ⊢
    have R7 := Lib.hid TN.out.1
    have R8 := Lib.hid TN.out.2.1
    have B3 : Hid (Below z wr w3) := Lib.hid (B2.out.trans (TN.out.2.2.mono (by have h := B2.out.size; have h2 := HZ.out; omega)))
    have SZ2 : Hid (z ≤ w2.heap.size) := Lib.hid (by have h := B2.out.size; have h2 := HZ.out; omega)
    have RX : Hid (∀ j, j < 3 → Rw w3 (e'.ax j)) := Lib.hid (fun j hj => (RO.out j hj).1.below TN.out.2.2)
    clear TN B2
    generalize w2.heap.size = z2 at R7 R8 SZ2
    have JU := HR.out.below k wr w3 F.out.2.2.2.2.2.2.2 (by rw [HZ.out]; exact B3.out)
    have J3 := Lib.hid JU.1
    have U3 : Hid (∀ b, U w3 b → b < z) := Lib.hid (fun b h => by rw [← HZ.out]; exact HR.out.lt k wr b F.out.2.2.2.2.2.2.2 (JU.2 b h))
    clear JU
    obtain ⟨fn, tm, asg, bd, hy, hRd⟩ := HR.out.round k e' w3 fO.out J3.out HN.out RX.out
    rw [EY.out] at hy
    have HRD := Lib.hid hRd
    clear hRd
    have RL7 := Lib.hid (Row.whole R7.out)
    have i37 : Hid ((Try.prog.info? 37).map (·.size) = some e'.R.toList.length) := Lib.hid (by kernel_rfl)
    have c8 : ∀ i, w3.cell? ⟨z2 + 1, i, none⟩ = #[I y0, I y1, I y2][i]? := R8.out.cell
    simp only [Act.put]
    refine (wpIn_wide (n := 3)).1 ?_
    gi_wp2_with (with_reducible refine qM rfl 37 (.tmp 7) rfl z2 0 rfl e'.R.toList _ RL7.out Try.underlying37 rfl i37.out ?_)
    refine HRD.out.mono ?_
    rintro e W4 ⟨rfl, hJ4, hs4, hk4, Xa⟩
    have J4 := Lib.hid hJ4
    have S4 := Lib.hid hs4
    have K4 : Hid (∀ b, b < w3.heap.size → (b < z → P b) → W4.heap[b]? = w3.heap[b]?) := Lib.hid (fun b hb hp => hk4 b hb (fun hu => HR.out.ne k w3 b J3.out hu (hp (U3.out b hu))))
    have U4 : Hid (∀ b, U W4 b → b < z ∨ w3.heap.size ≤ b) := Lib.hid (fun b hu => (Xa b hu).imp (U3.out b) id)
    clear hJ4 hs4 hk4 Xa hy HRD c8 RL7 i37
    have lz : z ≤ w3.heap.size := by have h := B3.out.size; have h2 := HZ.out; omega
    have L3 : ∀ b, b < z → w3.heap[b]? = wr.heap[b]? := fun b hb => B3.out.block b hb
    have rl : Hid (Row W4 bl 57 #[.slice (some ⟨lb, lo, none⟩) log.length cp]) := Lib.hid (((K4.out bl (by have h := F.out.1.lt; have h2 := HZ.out; omega) (fun _ => HP.out.1)).trans (L3 bl (by have h := F.out.1.lt; have h2 := HZ.out; omega))).trans F.out.1)
    have rc : Hid (Row W4 bc 24 c.row) := Lib.hid (((K4.out bc (by have h := F.out.2.1.lt; have h2 := HZ.out; omega) (fun _ => HP.out.2.1)).trans (L3 bc (by have h := F.out.2.1.lt; have h2 := HZ.out; omega))).trans F.out.2.1)
    have re : Hid (Row W4 be 37 ek.R) := Lib.hid (((K4.out be (by have h := F.out.2.2.1.lt; have h2 := HZ.out; omega) (fun _ => HP.out.2.2.1)).trans (L3 be (by have h := F.out.2.2.1.lt; have h2 := HZ.out; omega))).trans F.out.2.2.1)
    have r7 : Hid (Row W4 z2 37 e'.R) := Lib.hid ((K4.out z2 R7.out.lt (fun h => absurd h (by have := SZ2.out; omega))).trans R7.out)
    have rx : Hid (∀ j, j < 3 → Rw W4 (e'.ax j)) := Lib.hid (fun j hj => Rw.keep (RX.out j hj) (fun ad e hl => K4.out _ hl (fun h => absurd h (by have := (RO.out j hj).na ad e; have := SZ.out; omega))) (fun ad e hl => K4.out _ hl (fun h => absurd h (by have := (RO.out j hj).nb ad e; have := SZ.out; omega))))
    have rs : Hid (nR W4 (some ⟨lb, lo, none⟩) log) := Lib.hid (nR.keep (nR.below F.out.2.2.2.2.2.2.1 (by rw [HZ.out]; exact B3.out)) S4.out (fun ad e hl => K4.out _ hl (fun _ => HP.out.2.2.2 (by have := fO.out; omega) ad e)))
    have ap : Hid (∀ j, j < 3 → ∀ b, U W4 b → PY (e'.ax j) b) := Lib.hid (fun j hj b hu => (U4.out b hu).elim (fun h => (RO.out j hj).VW (by have := SZ.out; omega)) (fun h => (RX.out j hj).VW (by
     have g := (HG.out (k + 1) fO.out).lx j hj
     rw [← HN.out] at g
     have : (e'.ax j).x.length = 3 := by obtain rfl | rfl | rfl : j = 0 ∨ j = 1 ∨ j = 2 := by omega
                                         all_goals exact g
     omega) (by
     have g := (HG.out (k + 1) fO.out).lp j hj
     rw [← HN.out] at g
     have : (e'.ax j).p.length = 9 := by obtain rfl | rfl | rfl : j = 0 ∨ j = 1 ∨ j = 2 := by omega
                                         all_goals exact g
     omega) h))
    have ab : Hid (∀ j, j < 3 → PY (e'.ax j) be) := Lib.hid (fun j hj => (RO.out j hj).VW (by have h := F.out.2.2.1.lt; have h2 := HZ.out; have := SZ.out; omega))
    clear lz L3 K4 U4 S4 RX RO R7 R8 B3 U3 J3 F SZ SZ2
    gi_wp2
    have RL7 := Lib.hid (Row.whole r7.out)
    have TE : Hid (W4.there be 0 e'.R.size) := Lib.hid (by have h := Row.there re.out; exact h)
    have i37 : Hid ((Try.prog.info? 37).map (·.size) = some e'.R.toList.length) := Lib.hid (by kernel_rfl)
    have xZ : Hid ((Try.prog.info? 37).map (·.size) = some e'.R.size) := Lib.hid (by kernel_rfl)
    have one : Hid (e'.R.all (·.oneCell') = true) := Lib.hid (by kernel_rfl)
    have g0 : (0 : Int) ≤ (k : Int) := by omega
    have g1 : (k : Int) < 1000000 := by have := fO.out; have := hlen.out; omega
    go_wp2_with (first | with_reducible refine OG.gV rfl 37 (.tmp 7) rfl z2 0 rfl e'.R.toList _ RL7.out Try.underlying37 rfl i37.out ?_ | with_reducible refine wpList_store_mid rfl 37 (.tmp 3) (.tmp 27) rfl be 0 e'.R rfl rfl TE.out xZ.out one.out ?_)
    have hw : IntKind.i64.wrap ((k : Int) + 1) = ((k + 1 : Nat) : Int) := by rw [IntWalk.i64_in _ (by omega)]; omega
    go_roundw
    case rel =>
     refine ⟨k + 1, e', fO.out, by first | rfl | (simp [hw]) | (rw [hw]), Lib.hid ⟨(OG.dA _ _ _ _ (Ne.symm Xn.out.1)).trans rl.out, (OG.dA _ _ _ _ (Ne.symm Xn.out.2.1)).trans rc.out, Row.full re.out e'.R rfl, HN.out, fun j hj => (rx.out j hj).cells (ab.out j hj) _, fun j hj b hu => ap.out j hj b ((HR.out.cells (k + 1) W4 _ J4.out).2 b hu), rs.out.keep (iH e'.R.toList 0 W4 : W4.grownBy (W4.setCells be 0 e'.R.toList) (some be)).size (fun ad e hl => OG.dA _ _ _ _ (Xn.out.2.2 (by have := fO.out; omega) ad e)), (HR.out.cells (k + 1) W4 _ J4.out).1⟩⟩
    case measure =>
     have := fO.out
     simp [intOf, hw]
     omega
end Go.Proofs.Ytnijhjbcjeohhaa.BB

namespace Go.Proofs.Ytnijhjbcjeohhaa.BB
open Go.RowKit Go.Proofs.Ytnijhjbcjeohhaa.KK Go.Proofs.Ytnijhjbcjeohhaa.EE
theorem La {F : Fence} {n : Nat} {P : Program} {c : Code} {a : Act} {w : World} {K : Act → World → Prop} {E : Exit → Act → World → Prop} (h : ∀ K' : Act → World → Prop, Hid (∀ a w, K a w → K' a w) → c.wpIn F n P (Exit.then K' E) a w) : c.wpIn F n P (Exit.then K E) a w := h K (Lib.hid fun _ _ h => h)
theorem Lc {F : Fence} {n : Nat} {P : Program} {c : Code} {a : Act} {w : World} {Q : Exit → Act → World → Prop} (h : ∀ Q' : Exit → Act → World → Prop, Hid (∀ e a w, Q e a w → Q' e a w) → c.wpIn F n P Q' a w) : c.wpIn F n P Q a w := h Q (Lib.hid fun _ _ _ h => h)
theorem G6 {P : Program} {g : Operand} {ps : Array Tmp} {assign body : Code} {Q : Exit → Act → World → Prop} {a : Act} {w : World} {gf : Nat} {lb : Array Value} (hg : a.eval g = .func (.func gf) #[] lb) (eg : ∀ args w, (callFunc gf args).run P w = .ok (.enter gf args) w)
 (h : ∀ (fn : FuncId) (rec : LoopState → Option Code → Loop), (rec = fun st pe => { state := st, pending := pe, fn, tmps := a.tmps, params := ps, assign, body, defers := w.heap.size }) →
   Calls P gf (#[.func (.yield (w.heap.size + 1)) #[] #[]] ++ lb) ((w.alloc (.deferred (some []))).alloc (.loop (rec .ready none))) fun e w' => (∃ v, e = .returned v) ∧ w'.heap[w.heap.size + 1]? = some (.loop (rec .ready none)) ∧
    Q .normal { a with defers := { target := .collected w.heap.size, args := #[] } :: a.defers } (w'.putObj (w.heap.size + 1) (.loop (rec .exhausted none)))) :
 (Code.rangeFunc g ps assign body).wp P Q a w := by
 refine (wpIn_wide (n := 4)).1 (wpIn_rangeFunc ?_)
 intro fn hfn
 have hE := run_enterLoop_outer (P := P) (w := w) fn a.tmps ps assign body
 have hh := h fn _ rfl
 generalize ((w.alloc (.deferred (some []))).alloc (.loop { state := .ready, pending := none, fn, tmps := a.tmps, params := ps, assign, body, defers := w.heap.size })) = W1 at hE hh
 refine ⟨w.heap.size + 1, [{ target := .collected w.heap.size, args := #[] }], W1, { target := .fn (.func gf) lb, args := #[.func (.yield (w.heap.size + 1)) #[] #[]] }, W1, gf, #[.func (.yield (w.heap.size + 1)) #[] #[]] ++ lb, W1, hE, ?_, fun _ _ => trivial, ?_, fun _ => by decide, ?_⟩
 · simp only [resolve, hg]
   simp [go_sem]
 · simp [invoke, go_sem, eg]
 · refine callsIn_wide.2 (hh.mono ?_)
   rintro e w' ⟨⟨v, rfl⟩, hl, hq⟩
   exact ⟨none, _, run_endLoop (P := P) hl (by simp), hq⟩
end Go.Proofs.Ytnijhjbcjeohhaa.BB

namespace Go.Proofs.Ytnijhjbcjeohhaa.BB
open Go.RowKit Go.Proofs.Ytnijhjbcjeohhaa.KK Go.Proofs.Ytnijhjbcjeohhaa.EE
set_option linter.unusedVariables false
def outs (N : Nat → En) (k : Nat) : List Value := (List.range k).flatMap fun j => (yv (N (j + 1))).toList
theorem Kz (N : Nat → En) (k : Nat) : outs N (k + 1) = outs N k ++ (yv (N (k + 1))).toList := by simp [outs, List.range_succ]
structure Jf (N : Nat → En) (w : World) (D B6 B8 : Nat) (r : Loop) (k : Nat) (W : World) : Prop where
 r6 : ∃ e : Es, e.nu = N k ∧ Row W B6 37 e.R
 r8 : ∃ v, Boxed W B8 69 v ∧ W.ownsRow D 42 3 v k (outs N k)
 r4 : ∃ a : Array Value, a.size = 29 ∧ Row W (w.heap.size + 1) 37 a
 rl : W.heap[D + 1]? = some (.loop r)
 rd : W.heap[D]? = some (.deferred (some []))
 be : Below w.heap.size w W
def Uf (D B6 B8 : Nat) (W : World) (b : Nat) : Prop := b = D + 1 ∨ b = B6 ∨ b = B8 ∨ ∃ v, Boxed W B8 69 v ∧ v.ownBlock = some b
theorem Boxed.one {W : World} {B : Nat} {t : TypeId} {u v : Value} (h : Boxed W B t u) (h' : Boxed W B t v) : u = v := by
 have := h.symm.trans h'
 simpa using this
theorem Row.lt' {W : World} {B : Nat} {t : TypeId} {cs : Array Value} (h : Row W B t cs) : B < W.heap.size := (Array.getElem?_eq_some_iff.1 h).1
theorem gp {W W' : World} {base : Nat} {e : TypeId} {size : Nat} {v : Value} {k : Nat} {xs : List Value} (h : W.ownsRow base e size v k xs) (hk : ∀ g, v.ownBlock = some g → W'.heap[g]? = W.heap[g]?) : W'.ownsRow base e size v k xs := by
 refine ⟨h.1, ?_⟩
 rcases h.2 with hn | ⟨g, cap, cur, rfl, hb, hgg, rest⟩
 · exact .inl hn
 · exact .inr ⟨g, cap, cur, rfl, hb, (hk g rfl).trans hgg, rest⟩
section
variable {N : Nat → En} {w : World} {D B6 B8 : Nat} {r : Loop} {k : Nat} {W W' : World}
theorem Jf.lt (h : Jf N w D B6 B8 r k W) {b : Nat} (hu : Uf D B6 B8 W b) : b < W.heap.size := by
 rcases hu with rfl | rfl | rfl | ⟨v, hv, ho⟩
 · exact (Array.getElem?_eq_some_iff.1 h.rl).1
 · obtain ⟨e, _, h6⟩ := h.r6
   exact Row.lt' h6
 · obtain ⟨v, h8, _⟩ := h.r8
   exact h8.lt
 · obtain ⟨v', h8, hr⟩ := h.r8
   obtain rfl := Boxed.one hv h8
   exact (hr.lt b ho).2
theorem Jf.ne (h : Jf N w D B6 B8 r k W) {b : Nat} (hu : Uf D B6 B8 W b) : ¬ (b < D ∧ b ≠ B6 ∧ b ≠ B8) := by
 rcases hu with rfl | rfl | rfl | ⟨v, hv, ho⟩
 · omega
 · omega
 · omega
 · obtain ⟨v', h8, hr⟩ := h.r8
   obtain rfl := Boxed.one hv h8
   have := (hr.lt b ho).1
   omega
theorem Jf.keep (h : Jf N w D B6 B8 r k W) (hs : W.heap.size ≤ W'.heap.size) (hD : w.heap.size + 2 ≤ D) (h6 : w.heap.size ≤ B6) (h8 : w.heap.size ≤ B8) (g : Nat → Prop) (hw : ∀ b, b < w.heap.size → g b)
 (hu : ∀ b, Uf D B6 B8 W b → g b) (hd : g D) (h4 : g (w.heap.size + 1)) (hk : ∀ b, b < W.heap.size → g b → W'.heap[b]? = W.heap[b]?) (hb : Below w.heap.size W W') : Jf N w D B6 B8 r k W' ∧ ∀ b, Uf D B6 B8 W' b → Uf D B6 B8 W b := by
 have K : ∀ b, Uf D B6 B8 W b → W'.heap[b]? = W.heap[b]? := fun b hu' => hk b (h.lt hu') (hu b hu')
 obtain ⟨e, he, r6⟩ := h.r6
 obtain ⟨v, r8, hr⟩ := h.r8
 obtain ⟨a, ha, r4⟩ := h.r4
 have r8' : Boxed W' B8 69 v := (K B8 (.inr (.inr (.inl rfl)))).trans r8
 refine ⟨⟨⟨e, he, (K B6 (.inr (.inl rfl))).trans r6⟩, ⟨v, r8', gp hr (fun g' hg => K g' (.inr (.inr (.inr ⟨v, r8, hg⟩))))⟩, ⟨a, ha, (hk _ (Row.lt' r4) h4).trans r4⟩, (K _ (.inl rfl)).trans h.rl, (hk D (Array.getElem?_eq_some_iff.1 h.rd).1 hd).trans h.rd, h.be.trans hb⟩, ?_⟩
 rintro b (hb' | hb' | hb' | ⟨u, hu', ho⟩)
 · exact .inl hb'
 · exact .inr (.inl hb')
 · exact .inr (.inr (.inl hb'))
 · obtain rfl := Boxed.one hu' r8'
   exact .inr (.inr (.inr ⟨_, r8, ho⟩))
theorem Jf.below (h : Jf N w D B6 B8 r k W) (hD : w.heap.size + 2 ≤ D) (h6 : w.heap.size ≤ B6) (h8 : w.heap.size ≤ B8) (hb : Below W.heap.size W W') : Jf N w D B6 B8 r k W' ∧ ∀ b, Uf D B6 B8 W' b → Uf D B6 B8 W b :=
 h.keep hb.size hD h6 h8 (fun _ => True) (fun _ _ => trivial) (fun _ _ => trivial) trivial trivial (fun b hl _ => hb.block b hl) (hb.mono h.be.size)
theorem Jf.cells (h : Jf N w D B6 B8 r k W) (hD : w.heap.size + 2 ≤ D) (h6 : w.heap.size ≤ B6) (h8 : w.heap.size ≤ B8) (be : Nat) (hbe : w.heap.size + 2 ≤ be) (hlt : be < D) (n6 : be ≠ B6) (n8 : be ≠ B8) (vs : List Value) : Jf N w D B6 B8 r k (W.setCells be 0 vs) ∧ ∀ b, Uf D B6 B8 (W.setCells be 0 vs) b → Uf D B6 B8 W b :=
 h.keep (iH vs 0 W : W.grownBy (W.setCells be 0 vs) (some be)).size hD h6 h8 (fun b => b ≠ be) (fun b hl => by omega) (fun b hu e => by subst e; exact h.ne hu ⟨hlt, n6, n8⟩) (by omega) (by omega) (fun b _ hn => OG.dA _ _ _ _ hn) (KK.dF _ _ _ (Below.refl _ _) (by omega))
end
end Go.Proofs.Ytnijhjbcjeohhaa.BB

namespace Go.Proofs.Ytnijhjbcjeohhaa.BB
open Go.RowKit
set_option linter.unusedVariables false
section
variable {P : Program}
theorem wH (w : World) (base : Nat) (t ty e : TypeId) (i : TypeInfo) (z : Value) (size bytes : Nat) (ht : P.underlying t = some (.slice e)) (hi : P.info? e = some i) (hz : i.zero = some z)
 (hsize : i.size = size) (hby : i.bytes = bytes) (hzs : z.cells.size = size) (hsz : 0 < size)
 (v : Value) (n : Nat) (xs : List Value) (hown : w.ownsRow base e size v n xs)
 (a : Addr) (m c : Nat) (news : List Value) (hl : news.length = m * size) (hnews : ∀ j u, news[j]? = some u → w.cell? (a.add j) = some u) (h1 : ∀ u ∈ news, u.oneCell' = true)
 (h63 : n + m ≤ maxLen) (hbytes : (n + m) * bytes ≤ 140737488355328) (hbase : base ≤ w.heap.size) :
 ∃ v' w', (Builtin.append_ #[t, t] ty #[v, .slice (some a) m c]).run P w = .ok v' w' ∧ w'.ownsRow base e size v' (n + m) (xs ++ news) ∧ w.grownBy w' v.ownBlock ∧
   (∀ g, v'.ownBlock = some g → v.ownBlock = some g ∨ g = w.heap.size) := by
 obtain ⟨v', w', hr, r1, r2, r3⟩ := run_append_own (P := P) w base t ty e i z size bytes ht hi hz hsize hby hzs hsz v n xs hown a m c news hl hnews h1 h63 hbytes hbase
 refine ⟨v', w', hr, r1, r2, fun g hg => ?_⟩
 have hsmall : n + m ≤ 9223372036854775807 := by simp only [maxLen] at h63; omega
 subst hsize
 subst hby
 rcases hown.2 with ⟨rfl, rfl⟩ | ⟨b, cap, cur, rfl, hbg, hgb, hnc, hcm, hcs, htake⟩
 · by_cases hm : m = 0
   · rw [r3.2 ⟨rfl, hm⟩] at hg
     simp [Value.ownBlock] at hg
   · have hr2 := run_append_nil (P := P) w t ty e i z ht hi hz a m c news hl hnews (by omega) (by omega) (by have hb := hbytes; simp only [Nat.zero_add] at hb; omega)
     have h := hr.symm.trans hr2
     injection h with h _
     rw [h] at hg
     exact .inr (by simpa [Value.ownBlock] using hg.symm)
 · by_cases hroom : n + m ≤ cap
   · have hfit : n * i.size + news.length ≤ cur.size := by rw [hl, hcs, ← Nat.add_mul]; exact Nat.mul_le_mul_right _ hroom
     have hr2 := run_append_room (P := P) w t ty e i ht hi b n cap cur hgb a m c news hl hnews h1 hroom hfit
     have h := hr.symm.trans hr2
     injection h with h _
     rw [h] at hg
     exact .inl hg
   · have holds : ∀ j u, xs[j]? = some u → w.cell? ((⟨b, 0, none⟩ : Addr).add j) = some u := hown.cells (g := b) rfl
     have hr2 := run_append_grow (P := P) w t ty e i z ht hi hz ⟨b, 0, none⟩ n cap xs hown.1 holds a m c news hl hnews (by omega) (by omega) (growslice_fits (by omega) hbytes)
     have h := hr.symm.trans hr2
     injection h with h _
     rw [h] at hg
     exact .inr (by simpa [Value.ownBlock] using hg.symm)
theorem qU {F : Fence} {n : Nat} (w : World) {ops : Array Oper} {rest : List Oper} {o : Oper} {a : Act} {Q : Exit → Act → World → Prop}
 (hg : o.guard = none) (s x : Operand) (t : TypeId) (hop : o.op = Op.call { callee := Callee.builtin Builtin.append, args := #[s, x], argTypes := #[t, t] })
 (base : Nat) (e : TypeId) (i : TypeInfo) (z : Value) (size bytes : Nat) (h1 : P.underlying t = some (.slice e)) (h2 : P.info? e = some i) (h3 : i.zero = some z) (h4 : i.size = size) (h5 : i.bytes = bytes) (h6 : z.cells.size = size) (h7 : 0 < size)
 (v : Value) (k : Nat) (xs : List Value) (hs : a.eval s = v) (hown : w.ownsRow base e size v k xs) (ad : Addr) (m c : Nat) (news : List Value) (hx : a.eval x = .slice (some ad) m c) (hn : news.length = m * size)
 (hc : ∀ j u, news[j]? = some u → w.cell? (ad.add j) = some u) (h1c : ∀ u ∈ news, u.oneCell' = true) (b1 : k + m ≤ maxLen) (b2 : (k + m) * bytes ≤ 140737488355328) (b3 : base ≤ w.heap.size)
 (hK : ∀ v' w', w'.ownsRow base e size v' (k + m) (xs ++ news) → w.grownBy w' v.ownBlock → (∀ g, v'.ownBlock = some g → v.ownBlock = some g ∨ g = w.heap.size) → wpListIn F n P ops Q rest (a.put o.dst v') w') :
 wpListIn F n P ops Q (o :: rest) a w := by
 refine wpListIn_plain hg fun K hK' => ?_
 obtain ⟨v', w', hrun, r1, r2, r3⟩ := wH (P := P) w base t o.type e i z size bytes h1 h2 h3 h4 h5 h6 h7 v k xs hown ad m c news hn hc h1c b1 b2 b3
 unfold Oper.wpIn
 refine ⟨?_, ?_⟩
 · simp [Oper.about, hop, resolve, Target.leads, Sem.run_pure]
 · rw [Oper.semAt_plain F _ _ (by rw [hop]; intro c hc'; cases hc')]
   simp [execOp, hop, resolve, invoke, builtin, hs, hx, hrun, Result.andThen]
   exact hK' _ _ (hK v' w' r1 r2 r3)
end
end Go.Proofs.Ytnijhjbcjeohhaa.BB

