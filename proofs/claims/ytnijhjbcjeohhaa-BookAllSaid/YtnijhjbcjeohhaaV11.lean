import Derived.Test.YtnijhjbcjeohhaaV10
import Derived.Deep.RegionHeld3
import Derived.Test.YtnijhjbcjeohhaaV9
import Derived.Test.YtnijhjbcjeohhaaV8
import Derived.Maps.AppendAt
import Derived.OrdersHeld
import Derived.Test.YtnijhjbcjeohhaaV4
import Derived.WalkKit
import Derived.Below
import Derived.Deep.MidRow
import Derived.Lib.Hide
import Derived.ChangeKeysEq
/- Joined and thinned by a program of this session's own (wip/pack2.py) out of its texts (wip/ of its repo); parts were laid by its own program (wip/print-patch.py over the kit's print) out of the translation; Lean checks all. -/
set_option maxRecDepth 100000
set_option maxHeartbeats 4000000
namespace Go.Proofs.Ytnijhjbcjeohhaa.EE
open Go.RowKit Go.Proofs.Ytnijhjbcjeohhaa.KK Go.Proofs.af.aA Go.Proofs.af.aN Go.Proofs.af.aP
set_option linter.unusedVariables false
set_option linter.unusedSimpArgs false
theorem wp_build {P : Program} {op : Oper} {a : Act} {w : World} {K : Act → World → Prop} {Q : Exit → Act → World → Prop} (t : TypeId) (parts : Array (Nat × Operand)) (ho : op.op = .build t parts) (ps : Array (Nat × Value)) (hp : (parts.map fun (i, x) => (i, a.eval x)) = ps) (v : Value)
 (hr : (Instr.build t ps).run P w = .ok v w) (h : K (a.put op.dst v) w) : op.wp P a w K Q := by
 unfold Oper.wp execOp
 simp only [ho, hp, Sem.run_bind, Sem.run_pure, Result.andThen_ok, hr]
 exact h
theorem wpList_build {P : Program} {ops : Array Oper} {rest : List Oper} {op : Oper} {a : Act} {w : World} {Q : Exit → Act → World → Prop} (hgd : op.guard = none) (t : TypeId) (parts : Array (Nat × Operand)) (ho : op.op = .build t parts) (ps : Array (Nat × Value)) (hp : (parts.map fun (i, x) => (i, a.eval x)) = ps) (v : Value)
 (hr : (Instr.build t ps).run P w = .ok v w) (h : wpList P ops Q rest (a.put op.dst v) w) : wpList P ops Q (op :: rest) a w :=
 wpList_plain hgd fun _ hK => wp_build t parts ho ps hp v hr (hK _ _ h)
theorem Below.DF {w w1 w2 : World} {g : Nat} (h : Below w.heap.size w w1) (hg : w1.grownBy w2 (some g)) (hn : w.heap.size ≤ g) : Below w.heap.size w w2 :=
 ⟨hg.os.trans h.os, hg.tape.trans h.tape, hg.output.trans h.output, Nat.le_trans h.size hg.size, fun k hk => (hg.block k (Nat.lt_of_lt_of_le hk h.size) (fun e => by injection e with e; omega)).trans (h.block k hk)⟩
def Cf.R (c : Cf) : Array Value := c.row
def Es.R (e : Es) : Array Value := e.row
def Sm.R (s : Sm) : Array Value := s.row
def Es.IW (e' : Es) : Array Value := ([I 3, I 1, .slice e'.t0.A e'.t0.x.length e'.t0.c, I 3, I 3, .slice e'.t0.B e'.t0.p.length e'.t0.d, I 3, I 1, .slice e'.t1.A e'.t1.x.length e'.t1.c, I 3, I 3, .slice e'.t1.B e'.t1.p.length e'.t1.d, I 3, I 1, .slice e'.t2.A e'.t2.x.length e'.t2.c, I 3, I 3, .slice e'.t2.B e'.t2.p.length e'.t2.d] : List Value).toArray
theorem wQ {w : World} {A : Option Addr} {l : List Int} (h : Rd w A l) (hl : l.length = 3) : ∃ b o, A = some ⟨b, o, none⟩ ∧ b < w.heap.size ∧ w.cell? ⟨b, o, none⟩ = some (I (l.getD 0 0)) := by
 obtain ⟨b, o, rfl, hb, hc⟩ := Rd.cells h (by omega)
 refine ⟨b, o, rfl, hb, ?_⟩
 have := hc 0 (l.getD 0 0) (by
  match l, hl with
  | [_, _, _], _ => rfl)
 simpa using this
theorem Row.there {w : World} {b : Nat} {t : TypeId} {C : Array Value} (h : Row w b t C) : w.there b 0 C.size := fun j hj => by
 refine ⟨?_, h.free _⟩
 rw [h.cell]
 simp [hj]
theorem yL {P : Program} {fn : Func} {p p' : Tmp} {ty ty' : TypeId} (h : fn.results = #[.cell p ty, .cell p' ty']) (tmps : Array Value) (w : World) (g g' : Nat) (cs cs' : List Value) (d d' : TypeDesc)
 (hp : tmps.getD p undef = .pointer (some ⟨g, 0, none⟩)) (hg : w.rangeAt g 0 cs) (hu : P.underlying ty = some d) (hd : d.isRow = true) (hi : (P.info? ty).map (·.size) = some cs.length)
 (hp' : tmps.getD p' undef = .pointer (some ⟨g', 0, none⟩)) (hg' : w.rangeAt g' 0 cs') (hu' : P.underlying ty' = some d') (hd' : d'.isRow = true) (hi' : (P.info? ty').map (·.size) = some cs'.length) :
 (results fn tmps).run P w = .ok (.tuple #[.agg cs.toArray, .agg cs'.toArray]) w := by
 have h1 : tmps[p]?.getD undef = .pointer (some ⟨g, 0, none⟩) := by simpa using hp
 have h2 : tmps[p']?.getD undef = .pointer (some ⟨g', 0, none⟩) := by simpa using hp'
 simp [results, h, h1, h2, asAddr, run_loadVar_mid w g 0 ty cs d hg hu hd hi, run_loadVar_mid w g' 0 ty' cs' d' hg' hu' hd' hi']
theorem row_one (e' : Es) : ∀ v ∈ e'.R.toList, v.oneCell' = true := List.all_eq_true.mp (by kernel_rfl : e'.R.toList.all (·.oneCell') = true)
theorem iH {B : Nat} : ∀ (vs : List Value) (o : Nat) (w : World), w.grownBy (w.setCells B o vs) (some B) := by
 intro vs
 induction vs with
 | nil => intro o w; exact dP _ _
 | cons v vs ih => intro o w; exact a_ (bF (dP _ _) _ _) (ih (o + 1) _)
theorem Rg.cells {o' : Prop} {g : Nat} {w : World} {A : Option Addr} {l : List Int} (h : Rg o' g w A l) {B o : Nat} {vs : List Value} (hB : B + 2 = g ∨ B + 1 = g) : Rg o' g (w.setCells B o vs) A l := ⟨Rd.gr h.rd (iH vs o w) (fun ad e => by rcases h.nr ad e with ⟨_, h⟩ | h <;> omega), h.nr⟩
theorem Rx.cells {o' : Prop} {g : Nat} {w : World} {t : Tr} (h : Rx o' g w t) {B o : Nat} {vs : List Value} (hB : B + 2 = g ∨ B + 1 = g) : Rx o' g (w.setCells B o vs) t := ⟨h.x.cells hB, h.xc, h.p.cells hB, h.pd⟩
theorem _root_.Go.Proofs.Ytnijhjbcjeohhaa.KK.aS.set {w0 w : World} {L : List (TypeId × Array Value)} (h : aS w0 L w) {p : Addr} (hp : w0.heap.size + L.length ≤ p.block) (u : Value) : aS w0 L (w.setCell p u) :=
 ⟨h.rows.imp fun k t cs _ hk r => r.far (by omega) u, h.be.setCell (by omega) u⟩
def SS (c : Cf) (e : Es) (s : Sm) (a0 a1 a2 : Int) : Array Value := wk c e s a0 a1 a2
theorem Us (c : Cf) (e' : Es) (s : Sm) (a0 a1 a2 : Int) : ((wk c e' s a0 a1 a2).extract 10 (10 + e'.IW.toList.length)).toList = e'.IW.toList := by kernel_rfl
theorem Ur (c : Cf) (e' : Es) (s : Sm) (a0 a1 a2 : Int) : ((wk c e' s a0 a1 a2).extract 6 (6 + e'.R.toList.length)).toList = e'.R.toList := by kernel_rfl
theorem YS (e' : Es) (b o : Nat) (hA : (e'.ax 0).A = some ⟨b, o, none⟩) (hl : (e'.ax 0).x.length = 3) : ∀ w', (Instr.index 34 (.agg e'.IW) (.int .i64 0)).run Try.prog w' = .ok (.agg #[I 3, I 1, .slice (some ⟨b, o, none⟩) 3 e'.t0.c, I 3, I 3, .slice e'.t0.B e'.t0.p.length e'.t0.d]) w' := fun w' => by
 have h : (Instr.index 34 (.agg e'.IW) (.int .i64 0)).run Try.prog w' = .ok (.agg #[I 3, I 1, .slice e'.t0.A e'.t0.x.length e'.t0.c, I 3, I 3, .slice e'.t0.B e'.t0.p.length e'.t0.d]) w' := by kernel_rfl
 rw [h]
 change e'.t0.A = _ at hA
 change e'.t0.x.length = 3 at hl
 rw [hA, hl]
theorem YR (e' : Es) (b o : Nat) (hA : (e'.ax 1).A = some ⟨b, o, none⟩) (hl : (e'.ax 1).x.length = 3) : ∀ w', (Instr.index 34 (.agg e'.IW) (.int .i64 1)).run Try.prog w' = .ok (.agg #[I 3, I 1, .slice (some ⟨b, o, none⟩) 3 e'.t1.c, I 3, I 3, .slice e'.t1.B e'.t1.p.length e'.t1.d]) w' := fun w' => by
 have h : (Instr.index 34 (.agg e'.IW) (.int .i64 1)).run Try.prog w' = .ok (.agg #[I 3, I 1, .slice e'.t1.A e'.t1.x.length e'.t1.c, I 3, I 3, .slice e'.t1.B e'.t1.p.length e'.t1.d]) w' := by kernel_rfl
 rw [h]
 change e'.t1.A = _ at hA
 change e'.t1.x.length = 3 at hl
 rw [hA, hl]
theorem YQ (e' : Es) (b o : Nat) (hA : (e'.ax 2).A = some ⟨b, o, none⟩) (hl : (e'.ax 2).x.length = 3) : ∀ w', (Instr.index 34 (.agg e'.IW) (.int .i64 2)).run Try.prog w' = .ok (.agg #[I 3, I 1, .slice (some ⟨b, o, none⟩) 3 e'.t2.c, I 3, I 3, .slice e'.t2.B e'.t2.p.length e'.t2.d]) w' := fun w' => by
 have h : (Instr.index 34 (.agg e'.IW) (.int .i64 2)).run Try.prog w' = .ok (.agg #[I 3, I 1, .slice e'.t2.A e'.t2.x.length e'.t2.c, I 3, I 3, .slice e'.t2.B e'.t2.p.length e'.t2.d]) w' := by kernel_rfl
 rw [h]
 change e'.t2.A = _ at hA
 change e'.t2.x.length = 3 at hl
 rw [hA, hl]
theorem J9 (c : Cf) (e : Es) (s : Sm) (w : World) (Q : Nat → World → Prop) (E : Es → Prop) (g : Nat) (hg : g = w.heap.size + 5)
 (h0 : ∀ w', Row w' g 89 (wk c e s 0 0 0) → Below w.heap.size w w' → Q 0 w')
 (h1 : ∀ w', Q 0 w' → Calls Try.prog 37 #[.pointer (some ⟨g, 0, none⟩)] w' fun x w'' => x = .returned (.tuple #[]) ∧ Q 1 w'' ∧ w'.grownBy w'' (some g))
 (h2 : ∀ w', Q 1 w' → Calls Try.prog 38 #[.pointer (some ⟨g, 0, none⟩)] w' fun x w'' => x = .returned (.tuple #[]) ∧ Q 2 w'' ∧ w'.grownBy w'' (some g))
 (h3 : ∀ w', Q 2 w' → Calls Try.prog 39 #[.pointer (some ⟨g, 0, none⟩)] w' fun x w'' => x = .returned (.tuple #[]) ∧ Q 3 w'' ∧ w'.grownBy w'' (some g))
 (h4 : ∀ w', Q 3 w' → Calls Try.prog 40 #[.pointer (some ⟨g, 0, none⟩)] w' fun x w'' => x = .returned (.tuple #[]) ∧ Q 4 w'' ∧ w'.grownBy w'' (some g))
 (h5 : ∀ w', Q 4 w' → ∃ (e' : Es) (a0 a1 a2 : Int), E e' ∧ Row w' g 89 (wk c e' s a0 a1 a2) ∧ Ok False g w' e' ∧ ∀ j, j < 3 → (e'.ax j).x.length = 3) :
 Calls Try.prog 16 #[.agg c.R, .agg e.R, .agg s.R] w fun x w' => ∃ e' : Es, E e' ∧ x = .returned (.tuple #[.agg e'.row, .agg #[I (e'.t0.x.getD 0 0), I (e'.t1.x.getD 0 0), I (e'.t2.x.getD 0 0)]]) ∧ (∀ j, j < 3 → Rx False g w' (e'.ax j)) ∧ Below w.heap.size w w' := by
 have H0 := Lib.hid h0
 have H1 := Lib.hid h1
 have H2 := Lib.hid h2
 have H3 := Lib.hid h3
 have H4 := Lib.hid h4
 have H5 := Lib.hid h5
 have HG := Lib.hid hg
 clear h0 h1 h2 h3 h4 h5 hg
 go_enter Try.func16, Try.ntmps16
 go_upto_region 1 with fail
 have L : Hid (aS w [(24, c.R), (37, e.R), (46, s.R), (37, #[.int .i64 0, .int .i64 0, .int .i64 0, .int .i64 0, .int .i64 0, .int .i64 0, .slice none 0 0, .int .i64 0, .int .i64 0, .slice none 0 0, .int .i64 0, .int .i64 0, .slice none 0 0, .int .i64 0, .int .i64 0, .slice none 0 0, .int .i64 0, .int .i64 0, .slice none 0 0, .int .i64 0, .int .i64 0, .slice none 0 0, .int .i64 0, .int .i64 0, .int .i64 0, .int .i64 0, .int .i64 0, .int .i64 0, .bool false]), (42, #[.int .i64 0, .int .i64 0, .int .i64 0])] (((((w.alloc (.cells c.R 24)).alloc (.cells e.R 37)).alloc (.cells s.R 46)).alloc (.cells #[.int .i64 0, .int .i64 0, .int .i64 0, .int .i64 0, .int .i64 0, .int .i64 0, .slice none 0 0, .int .i64 0, .int .i64 0, .slice none 0 0, .int .i64 0, .int .i64 0, .slice none 0 0, .int .i64 0, .int .i64 0, .slice none 0 0, .int .i64 0, .int .i64 0, .slice none 0 0, .int .i64 0, .int .i64 0, .slice none 0 0, .int .i64 0, .int .i64 0, .int .i64 0, .int .i64 0, .int .i64 0, .int .i64 0, .bool false] 37)).alloc (.cells #[.int .i64 0, .int .i64 0, .int .i64 0] 42))) := Lib.hid ((((((aS.none w).push (by simp) _ _).push (by simp) _ _).push (by simp) _ _).push (by simp) _ _).push (by simp) _ _)
 have LZ : Hid ((((((w.alloc (.cells c.R 24)).alloc (.cells e.R 37)).alloc (.cells s.R 46)).alloc (.cells #[.int .i64 0, .int .i64 0, .int .i64 0, .int .i64 0, .int .i64 0, .int .i64 0, .slice none 0 0, .int .i64 0, .int .i64 0, .slice none 0 0, .int .i64 0, .int .i64 0, .slice none 0 0, .int .i64 0, .int .i64 0, .slice none 0 0, .int .i64 0, .int .i64 0, .slice none 0 0, .int .i64 0, .int .i64 0, .slice none 0 0, .int .i64 0, .int .i64 0, .int .i64 0, .int .i64 0, .int .i64 0, .int .i64 0, .bool false] 37)).alloc (.cells #[.int .i64 0, .int .i64 0, .int .i64 0] 42)).heap.size = w.heap.size + 1 + 1 + 1 + 1 + 1) := Lib.hid (by simp)
 generalize (((((w.alloc (.cells c.R 24)).alloc (.cells e.R 37)).alloc (.cells s.R 46)).alloc (.cells #[.int .i64 0, .int .i64 0, .int .i64 0, .int .i64 0, .int .i64 0, .int .i64 0, .slice none 0 0, .int .i64 0, .int .i64 0, .slice none 0 0, .int .i64 0, .int .i64 0, .slice none 0 0, .int .i64 0, .int .i64 0, .slice none 0 0, .int .i64 0, .int .i64 0, .slice none 0 0, .int .i64 0, .int .i64 0, .slice none 0 0, .int .i64 0, .int .i64 0, .int .i64 0, .int .i64 0, .int .i64 0, .int .i64 0, .bool false] 37)).alloc (.cells #[.int .i64 0, .int .i64 0, .int .i64 0] 42)) = w5 at L LZ ⊢
 have R0 : Hid (w5.rangeAt w.heap.size 0 c.R.toList) := Lib.hid (Row.range L.out.r0 0 _ (by simp [Cf.R]))
 have R1 : Hid (w5.rangeAt (w.heap.size + 1) 0 e.R.toList) := Lib.hid (Row.range L.out.r1 0 _ (by simp [Es.R]))
 have R2 : Hid (w5.rangeAt (w.heap.size + 1 + 1) 0 s.R.toList) := Lib.hid (Row.range L.out.r2 0 _ (by simp [Sm.R]))
 have i24 := Lib.hid (show (Try.prog.info? 24).map (·.size) = some c.R.toList.length by kernel_rfl)
 have i37 := Lib.hid (show (Try.prog.info? 37).map (·.size) = some e.R.toList.length by kernel_rfl)
 have i46 := Lib.hid (show (Try.prog.info? 46).map (·.size) = some s.R.toList.length by kernel_rfl)
 have ZV : Hid (∀ w', (Instr.build 89 #[(0, .agg c.R), (1, .agg e.R), (2, .agg s.R)]).run Try.prog w' = .ok (.agg (SS c e s 0 0 0)) w') := Lib.hid (fun w' => by kernel_rfl)
 go_wp2_with (first
  | (with_reducible refine wpList_build rfl 89 #[(0, .tmp 14), (1, .tmp 15), (2, .tmp 16)] rfl #[(0, .agg c.R), (1, .agg e.R), (2, .agg s.R)] (by kernel_rfl) _ (ZV.out _) ?_)
  | (with_reducible refine wpList_load_mid rfl 24 (.tmp 3) rfl w.heap.size 0 rfl c.R.toList _ R0.out Try.underlying24 rfl i24.out ?_)
  | (with_reducible refine wpList_load_mid rfl 37 (.tmp 4) rfl (w.heap.size + 1) 0 rfl e.R.toList _ R1.out Try.underlying37 rfl i37.out ?_)
  | (with_reducible refine wpList_load_mid rfl 46 (.tmp 5) rfl (w.heap.size + 1 + 1) 0 rfl s.R.toList _ R2.out Try.underlying46 rfl i46.out ?_))
 have hg : g = w5.heap.size := HG.out.trans LZ.out.symm
 have R6 : Hid (Row (w5.alloc (.cells (SS c e s 0 0 0) 89)) g 89 (wk c e s 0 0 0)) := Lib.hid (by rw [hg]; exact Row.new w5 89 (SS c e s 0 0 0))
 have TE : Hid (Row (w5.alloc (.cells (SS c e s 0 0 0) 89)) (w.heap.size + 1 + 1 + 1) 37 #[.int .i64 0, .int .i64 0, .int .i64 0, .int .i64 0, .int .i64 0, .int .i64 0, .slice none 0 0, .int .i64 0, .int .i64 0, .slice none 0 0, .int .i64 0, .int .i64 0, .slice none 0 0, .int .i64 0, .int .i64 0, .slice none 0 0, .int .i64 0, .int .i64 0, .slice none 0 0, .int .i64 0, .int .i64 0, .slice none 0 0, .int .i64 0, .int .i64 0, .int .i64 0, .int .i64 0, .int .i64 0, .int .i64 0, .bool false]) := Lib.hid (L.out.r3.alloc _)
 have TV : Hid (Row (w5.alloc (.cells (SS c e s 0 0 0) 89)) (w.heap.size + 1 + 1 + 1 + 1) 42 #[.int .i64 0, .int .i64 0, .int .i64 0]) := Lib.hid (L.out.r4.alloc _)
 have BE : Hid (Below w.heap.size w (w5.alloc (.cells (SS c e s 0 0 0) 89))) := Lib.hid (L.out.be.alloc L.out.be.size _)
 have Z6 : Hid ((w5.alloc (.cells (SS c e s 0 0 0) 89)).heap.size = g + 1) := Lib.hid (by rw [hg]; simp)
 have NG : Hid (w.heap.size + 1 + 1 + 1 ≠ g ∧ w.heap.size + 1 + 1 + 1 + 1 ≠ g ∧ g + 1 ≠ g ∧ w.heap.size ≤ g) := Lib.hid (by have := HG.out; omega)
 rw [← hg]
 have GG : Hid (w.heap.size + 1 + 1 + 1 + 2 = g ∧ w.heap.size + 1 + 1 + 1 + 1 + 1 = g) := Lib.hid (by have := HG.out; omega)
 clear L LZ R0 R1 R2 i24 i37 i46 ZV hg HG
 generalize w5.alloc (.cells (SS c e s 0 0 0) 89) = w6 at R6 TE TV BE Z6 ⊢
 have Q0 := Lib.hid (H0.out _ (R6.out.alloc (.cells #[.func (.func 37) #[.pointer (some ⟨g, 0, none⟩)] #[], .func (.func 38) #[.pointer (some ⟨g, 0, none⟩)] #[], .func (.func 39) #[.pointer (some ⟨g, 0, none⟩)] #[], .func (.func 40) #[.pointer (some ⟨g, 0, none⟩)] #[]] 1)) (BE.out.alloc BE.out.size (.cells #[.func (.func 37) #[.pointer (some ⟨g, 0, none⟩)] #[], .func (.func 38) #[.pointer (some ⟨g, 0, none⟩)] #[], .func (.func 39) #[.pointer (some ⟨g, 0, none⟩)] #[], .func (.func 40) #[.pointer (some ⟨g, 0, none⟩)] #[]] 1)))
 have S0 : Hid (Row (w6.alloc (.cells #[.func (.func 37) #[.pointer (some ⟨g, 0, none⟩)] #[], .func (.func 38) #[.pointer (some ⟨g, 0, none⟩)] #[], .func (.func 39) #[.pointer (some ⟨g, 0, none⟩)] #[], .func (.func 40) #[.pointer (some ⟨g, 0, none⟩)] #[]] 1)) (w.heap.size + 1 + 1 + 1) 37 #[.int .i64 0, .int .i64 0, .int .i64 0, .int .i64 0, .int .i64 0, .int .i64 0, .slice none 0 0, .int .i64 0, .int .i64 0, .slice none 0 0, .int .i64 0, .int .i64 0, .slice none 0 0, .int .i64 0, .int .i64 0, .slice none 0 0, .int .i64 0, .int .i64 0, .slice none 0 0, .int .i64 0, .int .i64 0, .slice none 0 0, .int .i64 0, .int .i64 0, .int .i64 0, .int .i64 0, .int .i64 0, .int .i64 0, .bool false] ∧ Row (w6.alloc (.cells #[.func (.func 37) #[.pointer (some ⟨g, 0, none⟩)] #[], .func (.func 38) #[.pointer (some ⟨g, 0, none⟩)] #[], .func (.func 39) #[.pointer (some ⟨g, 0, none⟩)] #[], .func (.func 40) #[.pointer (some ⟨g, 0, none⟩)] #[]] 1)) (w.heap.size + 1 + 1 + 1 + 1) 42 #[.int .i64 0, .int .i64 0, .int .i64 0] ∧ Row (w6.alloc (.cells #[.func (.func 37) #[.pointer (some ⟨g, 0, none⟩)] #[], .func (.func 38) #[.pointer (some ⟨g, 0, none⟩)] #[], .func (.func 39) #[.pointer (some ⟨g, 0, none⟩)] #[], .func (.func 40) #[.pointer (some ⟨g, 0, none⟩)] #[]] 1)) (g + 1) 1 #[.func (.func 37) #[.pointer (some ⟨g, 0, none⟩)] #[], .func (.func 38) #[.pointer (some ⟨g, 0, none⟩)] #[], .func (.func 39) #[.pointer (some ⟨g, 0, none⟩)] #[], .func (.func 40) #[.pointer (some ⟨g, 0, none⟩)] #[]] ∧ Below w.heap.size w (w6.alloc (.cells #[.func (.func 37) #[.pointer (some ⟨g, 0, none⟩)] #[], .func (.func 38) #[.pointer (some ⟨g, 0, none⟩)] #[], .func (.func 39) #[.pointer (some ⟨g, 0, none⟩)] #[], .func (.func 40) #[.pointer (some ⟨g, 0, none⟩)] #[]] 1))) :=
  Lib.hid ⟨TE.out.alloc _, TV.out.alloc _, by rw [← Z6.out]; exact Row.new _ _ _, BE.out.alloc BE.out.size _⟩
 clear R6 TE TV BE Z6 H0
 generalize w6.alloc (.cells #[.func (.func 37) #[.pointer (some ⟨g, 0, none⟩)] #[], .func (.func 38) #[.pointer (some ⟨g, 0, none⟩)] #[], .func (.func 39) #[.pointer (some ⟨g, 0, none⟩)] #[], .func (.func 40) #[.pointer (some ⟨g, 0, none⟩)] #[]] 1) = w7 at Q0 S0 ⊢
 go_loopw [29] (fun i wr => ∃ k : Nat, k ≤ 4 ∧ i = .int .i64 k ∧ Hid (Q k wr) ∧ Hid (Row wr (w.heap.size + 1 + 1 + 1) 37 #[.int .i64 0, .int .i64 0, .int .i64 0, .int .i64 0, .int .i64 0, .int .i64 0, .slice none 0 0, .int .i64 0, .int .i64 0, .slice none 0 0, .int .i64 0, .int .i64 0, .slice none 0 0, .int .i64 0, .int .i64 0, .slice none 0 0, .int .i64 0, .int .i64 0, .slice none 0 0, .int .i64 0, .int .i64 0, .slice none 0 0, .int .i64 0, .int .i64 0, .int .i64 0, .int .i64 0, .int .i64 0, .int .i64 0, .bool false] ∧ Row wr (w.heap.size + 1 + 1 + 1 + 1) 42 #[.int .i64 0, .int .i64 0, .int .i64 0] ∧ Row wr (g + 1) 1 #[.func (.func 37) #[.pointer (some ⟨g, 0, none⟩)] #[], .func (.func 38) #[.pointer (some ⟨g, 0, none⟩)] #[], .func (.func 39) #[.pointer (some ⟨g, 0, none⟩)] #[], .func (.func 40) #[.pointer (some ⟨g, 0, none⟩)] #[]] ∧ Below w.heap.size w wr)) (fun i _ => 4 - (intOf i).toNat)
 case atStart => exact ⟨0, by omega, rfl, Q0, S0⟩
 case round =>
  clear Q0 S0
  obtain ⟨k, hk, rfl, QK, SK⟩ := hrel
  have fc := SK.out.2.2.1.cell
  obtain rfl | rfl | rfl | rfl | rfl : k = 4 ∨ k = 0 ∨ k = 1 ∨ k = 2 ∨ k = 3 := by omega
  rotate_left
  · go_wp2_with fail
    refine (H1.out _ QK.out).mono ?_
    rintro x wn ⟨rfl, hq, hgr⟩
    have Q1 := Lib.hid hq
    have S1 := Lib.hid (And.intro ((PR.Row.gr SK.out.1) hgr NG.out.1) (And.intro ((PR.Row.gr SK.out.2.1) hgr NG.out.2.1) (And.intro ((PR.Row.gr SK.out.2.2.1) hgr NG.out.2.2.1) (Below.DF SK.out.2.2.2 hgr NG.out.2.2.2))))
    clear hq hgr fc QK SK
    go_wp2
    go_roundw
    case rel => exact ⟨0 + 1, by omega, by go_num, Q1, S1⟩
    case measure => simp [intOf]
  · go_wp2_with fail
    refine (H2.out _ QK.out).mono ?_
    rintro x wn ⟨rfl, hq, hgr⟩
    have Q1 := Lib.hid hq
    have S1 := Lib.hid (And.intro ((PR.Row.gr SK.out.1) hgr NG.out.1) (And.intro ((PR.Row.gr SK.out.2.1) hgr NG.out.2.1) (And.intro ((PR.Row.gr SK.out.2.2.1) hgr NG.out.2.2.1) (Below.DF SK.out.2.2.2 hgr NG.out.2.2.2))))
    clear hq hgr fc QK SK
    go_wp2
    go_roundw
    case rel => exact ⟨1 + 1, by omega, by go_num, Q1, S1⟩
    case measure => simp [intOf]
  · go_wp2_with fail
    refine (H3.out _ QK.out).mono ?_
    rintro x wn ⟨rfl, hq, hgr⟩
    have Q1 := Lib.hid hq
    have S1 := Lib.hid (And.intro ((PR.Row.gr SK.out.1) hgr NG.out.1) (And.intro ((PR.Row.gr SK.out.2.1) hgr NG.out.2.1) (And.intro ((PR.Row.gr SK.out.2.2.1) hgr NG.out.2.2.1) (Below.DF SK.out.2.2.2 hgr NG.out.2.2.2))))
    clear hq hgr fc QK SK
    go_wp2
    go_roundw
    case rel => exact ⟨2 + 1, by omega, by go_num, Q1, S1⟩
    case measure => simp [intOf]
  · go_wp2_with fail
    refine (H4.out _ QK.out).mono ?_
    rintro x wn ⟨rfl, hq, hgr⟩
    have Q1 := Lib.hid hq
    have S1 := Lib.hid (And.intro ((PR.Row.gr SK.out.1) hgr NG.out.1) (And.intro ((PR.Row.gr SK.out.2.1) hgr NG.out.2.1) (And.intro ((PR.Row.gr SK.out.2.2.1) hgr NG.out.2.2.1) (Below.DF SK.out.2.2.2 hgr NG.out.2.2.2))))
    clear hq hgr fc QK SK
    go_wp2
    go_roundw
    case rel => exact ⟨3 + 1, by omega, by go_num, Q1, S1⟩
    case measure => simp [intOf]
  clear fc
  obtain ⟨wq, hwq⟩ : ∃ wq, wq = wr := ⟨_, rfl⟩
  subst hwq
  obtain ⟨e', a0, a1, a2, EE0, RW, OK, LX⟩ := H5.out _ QK.out
  have RA := Lib.hid (Row.range RW 10 e'.IW.toList (Us c e' s a0 a1 a2))
  have RE := Lib.hid (Row.range RW 6 e'.R.toList (Ur c e' s a0 a1 a2))
  have RWH := Lib.hid RW
  have EH := Lib.hid EE0
  clear EE0
  have Zc := Lib.hid OK
  have Wh := Lib.hid LX
  clear RW OK LX H1 H2 H3 H4 H5
  obtain ⟨b0, o0, hA0, hb0, hc0⟩ := wQ (Zc.out 0 (by decide)).x.rd (Wh.out 0 (by decide))
  obtain ⟨b1, o1, hA1, hb1, hc1⟩ := wQ (Zc.out 1 (by decide)).x.rd (Wh.out 1 (by decide))
  obtain ⟨b2, o2, hA2, hb2, hc2⟩ := wQ (Zc.out 2 (by decide)).x.rd (Wh.out 2 (by decide))
  have IX0 := Lib.hid (YS e' b0 o0 hA0 (Wh.out 0 (by decide)))
  have IX1 := Lib.hid (YR e' b1 o1 hA1 (Wh.out 1 (by decide)))
  have IX2 := Lib.hid (YQ e' b2 o2 hA2 (Wh.out 2 (by decide)))
  have HB0 := Lib.hid hb0
  have HB1 := Lib.hid hb1
  have HB2 := Lib.hid hb2
  obtain ⟨z0, hz0⟩ : ∃ z, z = e'.t0.x.getD 0 0 := ⟨_, rfl⟩
  obtain ⟨z1, hz1⟩ : ∃ z, z = e'.t1.x.getD 0 0 := ⟨_, rfl⟩
  obtain ⟨z2, hz2⟩ : ∃ z, z = e'.t2.x.getD 0 0 := ⟨_, rfl⟩
  have HC0 : Hid (wq.cell? ⟨b0, o0, none⟩ = some (I z0)) := Lib.hid (hc0.trans (congrArg (fun z => some (I z)) hz0.symm))
  have HC1 : Hid (wq.cell? ⟨b1, o1, none⟩ = some (I z1)) := Lib.hid (hc1.trans (congrArg (fun z => some (I z)) hz1.symm))
  have HC2 : Hid (wq.cell? ⟨b2, o2, none⟩ = some (I z2)) := Lib.hid (hc2.trans (congrArg (fun z => some (I z)) hz2.symm))
  have HZ := Lib.hid (And.intro hz0 (And.intro hz1 hz2))
  clear hb0 hb1 hb2 hc0 hc1 hc2 hA0 hA1 hA2 hz0 hz1 hz2
  have NZ : Hid (aS wq [(42, CW 0 0 0 z0 z1 z2 0)] (wq.alloc (.cells #[.int .i64 0, .int .i64 0, .int .i64 0] 42))) := Lib.hid ((aS.none wq).push (by simp) _ _)
  have RA2 : Hid ((wq.alloc (.cells #[.int .i64 0, .int .i64 0, .int .i64 0] 42)).rangeAt g 10 e'.IW.toList) := Lib.hid (World.rangeAt_alloc RA.out _)
  have i34 := Lib.hid (show (Try.prog.info? 34).map (·.size) = some e'.IW.toList.length by kernel_rfl)
  go_wp2_with (with_reducible refine wpList_load_mid rfl 34 (.tmp 39) rfl g 10 rfl e'.IW.toList _ RA2.out Try.underlying34 rfl i34.out ?_)
  clear i34 RA2 RA
  go_loopw [41] (fun i wl => ∃ k : Nat, k ≤ 3 ∧ i = .int .i64 k ∧ Hid (aS wq [(42, CW 0 0 0 z0 z1 z2 k)] wl)) (fun i _ => 3 - (intOf i).toNat)
  case atStart => exact ⟨0, by omega, rfl, NZ⟩
  case round =>
   clear NZ
   obtain ⟨k, hk, rfl, M⟩ := hrel
   obtain rfl | rfl | rfl | rfl : k = 3 ∨ k = 0 ∨ k = 1 ∨ k = 2 := by omega
   · obtain ⟨EE, hEE⟩ : ∃ E, E = e'.R.toList := ⟨_, rfl⟩
     obtain ⟨VV, hVV⟩ : ∃ E : List Value, E = [I z0, I z1, I z2] := ⟨_, rfl⟩
     have l29 : EE.length = 29 := by rw [hEE]; rfl
     have l3 : VV.length = 3 := by rw [hVV]; rfl
     have s29 : EE.toArray.size = 29 := by simp [l29]
     have s3 : VV.toArray.size = 3 := by simp [l3]
     have f1 : wr.rangeAt g 6 EE := by
      intro j v hv
      rw [hEE] at hv
      exact (Below.cell M.out.be (p := ⟨g, 6 + j, none⟩) RWH.out.lt).trans (RE.out j v hv)
     have f2 : wr.rangeAt wq.heap.size 0 VV := by rw [hVV]; exact Row.range M.out.r0 0 _ rfl
     have f3 : wr.there (w.heap.size + 1 + 1 + 1) 0 29 := Row.there (SK.out.1.below M.out.be SK.out.1.lt)
     have f4 : wr.there (w.heap.size + 1 + 1 + 1 + 1) 0 3 := Row.there (SK.out.2.1.below M.out.be SK.out.2.1.lt)
     have u37 := Try.underlying37
     have u42 := Try.underlying42
     have i37 : (Try.prog.info? 37).map (·.size) = some EE.length := by rw [l29]; kernel_rfl
     have i42 : (Try.prog.info? 42).map (·.size) = some VV.length := by rw [l3]; kernel_rfl
     have a29 : ∀ v ∈ EE, v.oneCell' = true := by rw [hEE]; exact row_one e'
     have a3 : ∀ v ∈ VV, v.oneCell' = true := by rw [hVV]; intro v hv; simp at hv; rcases hv with rfl | rfl | rfl <;> rfl
     have dj : g ≠ w.heap.size + 1 + 1 + 1 ∧ g ≠ w.heap.size + 1 + 1 + 1 + 1 ∧ wq.heap.size ≠ w.heap.size + 1 + 1 + 1 ∧ wq.heap.size ≠ w.heap.size + 1 + 1 + 1 + 1 := by
      have := SK.out.2.1.lt
      have := NG.out
      omega
     have HF := Lib.hid (And.intro f3 f4)
     have BW : Hid (Below w.heap.size w wr) := Lib.hid (SK.out.2.2.2.trans (M.out.be.mono SK.out.2.2.2.size))
     have OKR := Lib.hid Zc.out
     have MB := Lib.hid M.out.be
     clear M SK RE RWH Zc Wh HB0 HB1 HB2 HC0 HC1 HC2 IX0 IX1 IX2 QK
     go_wp2_with fail
     refine wp_region_held_drew (S := (fun w' => w'.rangeAt g 6 EE ∧ w'.rangeAt wq.heap.size 0 VV ∧ w'.there (w.heap.size + 1 + 1 + 1) 0 29 ∧ w'.there (w.heap.size + 1 + 1 + 1 + 1) 0 3)) (by kernel_rfl) (by simp only [World.rangeAt_drew, World.there_drew]; exact ⟨f1, f2, f3, f4⟩) (fun hHeld => ?_)
     refine wpAnyH_take (i := 0) (oi := _) (v := ?v0) rfl (by kernel_rfl) (by kernel_rfl) (by kernel_rfl) (fun _ _ _ h => h) (Or.inl ⟨by rfl, ?hy0⟩) (by assumption) ?_
     case hy0 =>
      intro w' hSw
      simp only [List.getElem_toArray, List.getElem_cons_succ, List.getElem_cons_zero]
      go_simp
      (try with_reducible rfl)
     change wpAnyH _ _ _ _ _ _ _ (Act.put _ (some 53) _) _
     simp only [Act.put, List.setIfInBounds_toArray, List.set_cons_zero, List.set_cons_succ]
     refine wpAnyH_take (i := 1) (oi := _) (v := ?v1) rfl (by kernel_rfl) (by kernel_rfl) (by kernel_rfl) (fun _ _ _ h => h) (Or.inl ⟨by rfl, ?hy1⟩) (by assumption) ?_
     case hy1 =>
      intro w' hSw
      simp only [List.getElem_toArray, List.getElem_cons_succ, List.getElem_cons_zero]
      go_simp
      (try with_reducible rfl)
     change wpAnyH _ _ _ _ _ _ _ (Act.put _ (some 54) _) _
     simp only [Act.put, List.setIfInBounds_toArray, List.set_cons_zero, List.set_cons_succ]
     refine wpAnyH_take (i := 2) (oi := _) (v := ?v2) rfl (by kernel_rfl) (by kernel_rfl) (by kernel_rfl) (fun _ _ _ h => h) (Or.inl ⟨by rfl, ?hy2⟩) (by assumption) ?_
     case hy2 =>
      intro w' hSw
      simp only [List.getElem_toArray, List.getElem_cons_succ, List.getElem_cons_zero]
      go_simp
      (try with_reducible rfl)
     change wpAnyH _ _ _ _ _ _ _ (Act.put _ (some 55) _) _
     simp only [Act.put, List.setIfInBounds_toArray, List.set_cons_zero, List.set_cons_succ]
     refine wpAnyH_take (i := 3) (oi := _) (v := .agg EE.toArray) rfl (by kernel_rfl) (by kernel_rfl) (by kernel_rfl) (fun _ _ _ h => h) (yieldsIf_load_mid (by rfl) 37 (.tmp 55) rfl g 6 rfl EE _ (fun _ h => h.1) u37 rfl i37) (by assumption) ?_
     change wpAnyH _ _ _ _ _ _ _ (Act.put _ (some 56) _) _
     simp only [Act.put, List.setIfInBounds_toArray, List.set_cons_zero, List.set_cons_succ]
     refine wpAnyH_take (i := 4) (oi := _) (v := .agg VV.toArray) rfl (by kernel_rfl) (by kernel_rfl) (by kernel_rfl) (fun _ _ _ h => h) (yieldsIf_load_mid (by rfl) 42 (.tmp 11) rfl wq.heap.size 0 rfl VV _ (fun _ h => h.2.1) u42 rfl i42) (by assumption) ?_
     change wpAnyH _ _ _ _ _ _ _ (Act.put _ (some 57) _) _
     simp only [Act.put, List.setIfInBounds_toArray, List.set_cons_zero, List.set_cons_succ]
     refine wpAnyH_ready (rs := [5]) (by kernel_rfl) (by simp) ?_
     refine AllReadyH.cons (o := _) rfl (fun K hK => ?_) AllReadyH.nil
     rw [if_pos (by rfl)]
     refine wp_store_mid 37 (.tmp 6) (.tmp 56) rfl (w.heap.size + 1 + 1 + 1) 0 EE.toArray rfl rfl (by rw [s29]; exact hHeld.2.2.1) (by rw [s29]; rw [l29] at i37; exact i37) (all_oneCell_toArray a29) ?_
     simp only [List.toList_toArray]
     refine hK.out _ _ ⟨World.rangeAt_setCells_apart hHeld.1 _ _ _ (.inl dj.1), World.rangeAt_setCells_apart hHeld.2.1 _ _ _ (.inl dj.2.2.1), World.there_setCells hHeld.2.2.1 _ _ _, World.there_setCells hHeld.2.2.2 _ _ _⟩ (fun hHeld => ?_)
     clear hK K
     try simp only [Act.put, List.setIfInBounds_toArray, List.set_cons_zero, List.set_cons_succ]
     refine wpAnyH_ready (rs := [6]) (by kernel_rfl) (by simp) ?_
     refine AllReadyH.cons (o := _) rfl (fun K hK => ?_) AllReadyH.nil
     rw [if_pos (by rfl)]
     refine wp_store_mid 42 (.tmp 7) (.tmp 57) rfl (w.heap.size + 1 + 1 + 1 + 1) 0 VV.toArray rfl rfl (by rw [s3]; exact hHeld.2.2.2) (by rw [s3]; rw [l3] at i42; exact i42) (all_oneCell_toArray a3) ?_
     simp only [List.toList_toArray]
     refine hK.out _ _ ⟨World.rangeAt_setCells_apart hHeld.1 _ _ _ (.inl dj.2.1), World.rangeAt_setCells_apart hHeld.2.1 _ _ _ (.inl dj.2.2.2), World.there_setCells hHeld.2.2.1 _ _ _, World.there_setCells hHeld.2.2.2 _ _ _⟩ (fun hHeld => ?_)
     clear hK K
     try simp only [Act.put, List.setIfInBounds_toArray, List.set_cons_zero, List.set_cons_succ]
     refine wpAnyH_done (by kernel_rfl) ?_ _
     go_wp2_with fail
     have BF : Hid (Below w.heap.size w ((wr.drew.setCells (w.heap.size + 1 + 1 + 1) 0 EE).setCells (w.heap.size + 1 + 1 + 1 + 1) 0 VV)) := Lib.hid (KK.dF _ _ _ (KK.dF _ _ _ (BW.out.drew) (by omega)) (by omega))
     refine bodyPost_ret (yL rfl _ _ (w.heap.size + 1 + 1 + 1) (w.heap.size + 1 + 1 + 1 + 1) EE VV _ _ rfl ?_ u37 rfl i37 rfl ?_ u42 rfl i42) rfl ?_
     · exact World.rangeAt_setCells_apart (World.rangeAt_setCells_same _ _ _ _ (by rw [l29]; simpa using f3)) _ _ _ (.inl (by omega))
     · exact World.rangeAt_setCells_same _ _ _ _ (by rw [l3]; exact World.there_setCells (by simpa using f4) _ _ _)
     · refine ⟨e', EH.out, ?_, fun j hj => (((OKR.out j hj).below MB.out.drew).cells (.inl GG.out.1)).cells (.inr GG.out.2), BF.out⟩
       rw [hEE, hVV, HZ.out.1, HZ.out.2.1, HZ.out.2.2]
       rfl
   · have c0 := Lib.hid ((Below.cell M.out.be (p := ⟨b0, o0, none⟩) HB0.out).trans HC0.out)
     have hlt := Nat.lt_of_lt_of_le HB0.out M.out.be.size
     have cc := c0.out
     have ix := IX0.out
     have MV := M.out.r0.cell
     have MF := M.out.r0.free
     have lV := M.out.r0.lt
     simp only [CW] at MV
     go_wp2
     go_roundw
     case rel => exact ⟨0 + 1, by omega, by go_num, Lib.hid ((M.out.put 0 42 _ M.out.r0 0 (I z0)).alloc _)⟩
     case measure => simp [intOf]
   · have c1 := Lib.hid ((Below.cell M.out.be (p := ⟨b1, o1, none⟩) HB1.out).trans HC1.out)
     have hlt := Nat.lt_of_lt_of_le HB1.out M.out.be.size
     have cc := c1.out
     have ix := IX1.out
     have MV := M.out.r0.cell
     have MF := M.out.r0.free
     have lV := M.out.r0.lt
     simp only [CW] at MV
     go_wp2
     go_roundw
     case rel => exact ⟨1 + 1, by omega, by go_num, Lib.hid ((M.out.put 0 42 _ M.out.r0 1 (I z1)).alloc _)⟩
     case measure => simp [intOf]
   · have c2 := Lib.hid ((Below.cell M.out.be (p := ⟨b2, o2, none⟩) HB2.out).trans HC2.out)
     have hlt := Nat.lt_of_lt_of_le HB2.out M.out.be.size
     have cc := c2.out
     have ix := IX2.out
     have MV := M.out.r0.cell
     have MF := M.out.r0.free
     have lV := M.out.r0.lt
     simp only [CW] at MV
     go_wp2
     go_roundw
     case rel => exact ⟨2 + 1, by omega, by go_num, Lib.hid ((M.out.put 0 42 _ M.out.r0 2 (I z2)).alloc _)⟩
     case measure => simp [intOf]
end Go.Proofs.Ytnijhjbcjeohhaa.EE

namespace Go.Proofs.Ytnijhjbcjeohhaa.EE
open Go.RowKit Go.Proofs.Ytnijhjbcjeohhaa.KK Go.Proofs.af.aA Go.Proofs.af.aN Go.Proofs.af.aP
set_option linter.unusedVariables false
set_option linter.unusedSimpArgs false
theorem CZ (g : Nat) (c : Cf) (e : Es) (s : Sm) (w : World) (R : Row w g 89 (wk c e s 0 0 0)) (hm : s.missing = true) :
 Calls Try.prog 37 #[.pointer (some ⟨g, 0, none⟩)] w fun x w' => x = .returned (.tuple #[]) ∧ w' = w := by
 have hc := R.cell
 go_enter Try.func37, Try.ntmps37
 go_wp2
 exact bodyPost_ret (results_none rfl _ _ _) rfl ⟨rfl, rfl⟩
theorem DD (g : Nat) (c : Cf) (e : Es) (s : Sm) (a0 a1 a2 : Int) (w : World) (R : Row w g 89 (wk c e s a0 a1 a2)) (hm : s.missing = true) :
 Calls Try.prog 39 #[.pointer (some ⟨g, 0, none⟩)] w fun x w' => x = .returned (.tuple #[]) ∧ w' = w := by
 have hc := R.cell
 go_enter Try.func39, Try.ntmps39
 go_wp2
 exact bodyPost_ret (results_none rfl _ _ _) rfl ⟨rfl, rfl⟩
structure Rw (w : World) (t : Tr) : Prop where
 x : Rd w t.A t.x
 xc : t.x.length ≤ t.c
 p : Rd w t.B t.p
 pd : t.p.length ≤ t.d
theorem Rw.below {w w' : World} {t : Tr} (h : Rw w t) (hb : Below w.heap.size w w') : Rw w' t := ⟨h.x.below hb, h.xc, h.p.below hb, h.pd⟩
theorem Rx.rw {o : Prop} {g : Nat} {w : World} {t : Tr} (h : Rx o g w t) : Rw w t := ⟨h.x.rd, h.xc, h.p.rd, h.pd⟩
theorem Rw.rx {w : World} {t : Tr} (h : Rw w t) (hx : 0 < t.x.length) (hp : 0 < t.p.length) : Rx True (w.heap.size + 5) w t :=
 ⟨⟨h.x, fun ad e => .inl ⟨trivial, (by have := PR.Rd.blk h.x ad e hx; omega)⟩⟩, h.xc, ⟨h.p, fun ad e => .inl ⟨trivial, (by have := PR.Rd.blk h.p ad e hp; omega)⟩⟩, h.pd⟩
structure Gd (n : En) : Prop where
 lx : ∀ j, j < 3 → (n.x j).length = 3
 lp : ∀ j, j < 3 → (n.p j).length = 9
 s0 : 0 ≤ n.steps
 s1 : n.steps ≤ 1099511627776
 c0 : 0 ≤ n.fJ
 c1 : n.fJ ≤ 1000
 o0 : ∀ k, k < 4 → 0 ≤ n.off k
 o1 : ∀ k, k < 4 → n.off k ≤ 1000
def a3 (x y z : Int) : Nat → Int
 | 0 => x
 | 1 => y
 | _ => z
def BQ (miss : Bool) (dt : Int) (n : En) (g0 g1 g2 a0 a1 a2 : Int) (n1 : En) (y : Nat → Int) : Prop :=
 (miss = true ∧ n1 = n ∧ y = a3 0 0 0) ∨
 (miss = false ∧ ∃ m0 m1 m2 m3 p0 p1 p2 p3 u0 u1 u2 u3 y0 y1 y2 F1 F2 F3 F4, yA (PQ.cl g0) (PQ.cl g1) (PQ.cl g2) dt m0 m1 m2 m3 F1 ∧ Uj n.q0 n.q1 n.q2 n.q3 m0 m1 m2 m3 p0 p1 p2 p3 F2 ∧ sJ p0 p1 p2 p3 u0 u1 u2 u3 F3 ∧
   Po u0 u1 u2 u3 (PQ.cl a0) (PQ.cl a1) (PQ.cl a2) y0 y1 y2 F4 ∧ PQ.wI (PQ.at4 u0 u1 u2 u3) 4 = true ∧
   n1 = { n with q0 := u0, q1 := u1, q2 := u2, q3 := u3, sat := (((((((n.sat || PQ.od g0) || PQ.od g1) || PQ.od g2) || PQ.od a0) || PQ.od a1) || PQ.od a2) || (((F1 || F2) || F3) || F4)) } ∧ y = a3 y0 y1 y2)
theorem yG (miss : Bool) (dt : Int) (n : En) (g0 g1 g2 a0 a1 a2 : Int) : ∃ n1 y, BQ miss dt n g0 g1 g2 a0 a1 a2 n1 y := by
 cases miss
 · obtain ⟨m0, m1, m2, m3, F1, h1, _⟩ := PQ.Ko (a3 (PQ.cl g0) (PQ.cl g1) (PQ.cl g2)) dt
   obtain ⟨u0, u1, u2, u3, F3, h3, hr, _⟩ := PQ.AY (PQ.comp (PQ.at4 n.q0 n.q1 n.q2 n.q3) (PQ.at4 m0 m1 m2 m3) 0) (PQ.comp (PQ.at4 n.q0 n.q1 n.q2 n.q3) (PQ.at4 m0 m1 m2 m3) 1) (PQ.comp (PQ.at4 n.q0 n.q1 n.q2 n.q3) (PQ.at4 m0 m1 m2 m3) 2) (PQ.comp (PQ.at4 n.q0 n.q1 n.q2 n.q3) (PQ.at4 m0 m1 m2 m3) 3)
   exact ⟨_, _, .inr ⟨rfl, m0, m1, m2, m3, _, _, _, _, u0, u1, u2, u3, _, _, _, F1, _, F3, _, h1, fun w => PQ.Bi (PQ.at4 n.q0 n.q1 n.q2 n.q3) (PQ.at4 m0 m1 m2 m3) w, h3, fun w => PQ.Ez _ _ _ _ _ _ _ w, hr, rfl, rfl⟩⟩
 · exact ⟨_, _, .inl ⟨rfl, rfl, rfl⟩⟩
theorem BQ.gd {miss : Bool} {dt : Int} {n : En} {g0 g1 g2 a0 a1 a2 : Int} {n1 : En} {y : Nat → Int} (h : BQ miss dt n g0 g1 g2 a0 a1 a2 n1 y) (G : Gd n) : Gd n1 := by
 rcases h with ⟨_, rfl, _⟩ | ⟨_, _, _, _, _, _, _, _, _, _, _, _, _, _, _, _, _, _, _, _, _, _, _, _, _, rfl, _⟩
 · exact G
 · exact ⟨fun j hj => by obtain rfl | rfl | rfl : j = 0 ∨ j = 1 ∨ j = 2 := by omega
                         all_goals exact G.lx _ (by omega), fun j hj => by obtain rfl | rfl | rfl : j = 0 ∨ j = 1 ∨ j = 2 := by omega
                                                                           all_goals exact G.lp _ (by omega), G.s0, G.s1, G.c0, G.c1, fun k hk => by obtain rfl | rfl | rfl | rfl : k = 0 ∨ k = 1 ∨ k = 2 ∨ k = 3 := by omega
                                                                                                                                                     all_goals exact G.o0 _ (by omega), fun k hk => by obtain rfl | rfl | rfl | rfl : k = 0 ∨ k = 1 ∨ k = 2 ∨ k = 3 := by omega
                                                                                                                                                                                                       all_goals exact G.o1 _ (by omega)⟩
def YJ (c : Cf) : List Int := [16777216, c.dt, 0, 0, 16777216, (kC 0 c.dt).1, 0, 0, 16777216]
def ahQ (c : Cf) : List Int := eF [0, (iD c.acc c.dt).1, (iD c.bias c.dt).1]
def VY (c : Cf) (n : En) (j : Nat) : List Int := mulL 3 3 1 (YJ c) (n.x j)
def Xd (c : Cf) (n : En) (j : Nat) : List Int := PR.um 3 (iy gQ 3 3 (PR.gK 3 3 (YJ c) (n.p j)) (ahQ c))
def ahY (c : Cf) (n : En) (y : Nat → Int) (j : Nat) : Int := (gQ ((VY c n j).getD 1 0) (iD (y j) c.dt).1).1
def ahS (c : Cf) (n : En) (y : Nat → Int) : Bool :=
 Nb (((n.sat || (kC 0 c.dt).2) || (iD c.acc c.dt).2) || (iD c.bias c.dt).2) (fun j => (iD (y j) c.dt).2) (fun j => (gQ ((VY c n j).getD 1 0) (iD (y j) c.dt).1).2) (fun j => qC 3 3 1 (YJ c) (n.x j)) (fun j => PR.mM 3 3 (YJ c) (n.p j)) (fun j => jf gQ 3 3 (PR.gK 3 3 (YJ c) (n.p j)) (ahQ c)) 3
def En.ahead (c : Cf) (n : En) (y : Nat → Int) : En :=
 { n with x0 := (VY c n 0).set 1 (ahY c n y 0), p0 := Xd c n 0, x1 := (VY c n 1).set 1 (ahY c n y 1), p1 := Xd c n 1, x2 := (VY c n 2).set 1 (ahY c n y 2), p2 := Xd c n 2, sat := ahS c n y }
theorem JC (c : Cf) (n : En) (j : Nat) : (VY c n j).length = 3 := PR.jm 3 3 1 _ _
theorem Ry (c : Cf) (n : En) (j : Nat) : (Xd c n j).length = 9 := by unfold Xd PR.um; rw [PR.pO, PR.qG]
theorem Gd.ahead {c : Cf} {n : En} {y : Nat → Int} (G : Gd n) : Gd (En.ahead c n y) :=
 ⟨fun j hj => by
   obtain rfl | rfl | rfl : j = 0 ∨ j = 1 ∨ j = 2 := by omega
   all_goals simp [En.x, En.ahead, JC], fun j hj => by
   obtain rfl | rfl | rfl : j = 0 ∨ j = 1 ∨ j = 2 := by omega
   all_goals simp [En.p, En.ahead, Ry], G.s0, G.s1, G.c0, G.c1, fun k hk => by
   obtain rfl | rfl | rfl | rfl : k = 0 ∨ k = 1 ∨ k = 2 ∨ k = 3 := by omega
   all_goals exact G.o0 _ (by omega), fun k hk => by
   obtain rfl | rfl | rfl | rfl : k = 0 ∨ k = 1 ∨ k = 2 ∨ k = 3 := by omega
   all_goals exact G.o1 _ (by omega)⟩
theorem Ql (a b : Int) : PQ.lC (iD a b).1 := PQ.sgB _ _ _
theorem not_odd {a : Int} (h : PQ.lC a) : ng a = false := by
 have := h.1
 have := h.2
 unfold ng
 simp
 omega
theorem Pm (g : Nat) (c : Cf) (e : Es) (s : Sm) (y : Nat → Int) (w : World) (R : Row w g 89 (wk c e s (y 0) (y 1) (y 2))) (hr : Ok True g w e) (G : Gd e.nu) :
 Calls Try.prog 38 #[.pointer (some ⟨g, 0, none⟩)] w fun r w' => r = .returned (.tuple #[]) ∧ ∃ e' : Es, e'.nu = En.ahead c e.nu y ∧ Ok False g w' e' ∧ gW w g c e' s (y 0) (y 1) (y 2) w' := by
 refine (Gf g c e s y (kC 0 c.dt).1 (iD c.acc c.dt).1 (iD c.bias c.dt).1 _ _ _ (ahQ c) (VY c e.nu) _ _ (Xd c e.nu) _ _ _ _ _ _ (ahY c e.nu y) w R hr (fun j hj => ⟨by rw [KJ]; exact G.lx j hj, by rw [Nq]; exact G.lp j hj⟩)
  (fun w => pY _ _ w) (fun w => eH _ _ w) (fun w => eH _ _ w) rfl (PR.kW _) (by simp [List.any, not_odd (Ql _ _), show ng 0 = false from rfl]) (fun j hj => by rw [KJ, Nq]; exact ⟨rfl, rfl, rfl, rfl, rfl, rfl, rfl⟩) (fun j _ => JC c e.nu j)
  (fun j hj w => eH _ _ w) (fun j hj w => nP _ _ w)).mono ?_
 rintro r w' ⟨rfl, t, ht, hw⟩
 refine ⟨rfl, _, ?_, ?_, hw⟩
 · simp only [Es.nu, (ht 0 (by decide)).1, (ht 0 (by decide)).2.1, (ht 1 (by decide)).1, (ht 1 (by decide)).2.1, (ht 2 (by decide)).1, (ht 2 (by decide)).2.1]
   rfl
 · intro j hj
   obtain rfl | rfl | rfl : j = 0 ∨ j = 1 ∨ j = 2 := by omega
   all_goals exact (ht _ (by omega)).2.2
def uz (n : En) (i k : Nat) (z r gate : Int) (n' : En) : Prop := ∃ X P tk fl, uJ n i k z r gate X P tk fl ∧ n' = n.held i k X P tk (PQ.od z || fl)
theorem P7 {lx lp lh : List Int} {z r gate : Int} {X P : List Int} {tk fl : Bool} (H : PR.Rz 3 lx lp lh z r gate X P tk fl) (h1 : lx.length = 3) (h2 : lp.length = 9) : X.length = 3 ∧ P.length = 9 := by
 unfold PR.Rz at H
 split at H
 · obtain ⟨rfl, rfl, _, _⟩ := H
   exact ⟨h1, h2⟩
 · obtain ⟨rfl, rfl, _, _⟩ := H
   exact ⟨upto_length, by unfold PR.tP PR.um; rw [PR.pO, PR.qG]⟩
theorem qF {n : En} (G : Gd n) {i k : Nat} (hi : i < 3) (hk : k < 4) (z r gate : Int) : ∃ n', uz n i k z r gate n' := by
 obtain ⟨X, P, tk, fl, h⟩ := PR.MM 3 (n.x i) (n.p i) [16777216, 0, 0] (PQ.cl z) r gate
 have hl := P7 h (G.lx i hi) (G.lp i hi)
 exact ⟨_, X, P, tk, fl, ⟨h, G.lx i hi, G.lp i hi, hl.1, hl.2, G.o0 k hk, G.o1 k hk⟩, rfl⟩
theorem y7 {tk : Bool} {n : Int} (h0 : 0 ≤ n) (h1 : n ≤ 1000) : 0 ≤ jd tk n ∧ jd tk n ≤ 1000 := by
 unfold jd
 split
 · omega
 · omega
theorem NV (n : En) (i k j : Nat) (hj : j < 3) (hi : i < 3) (X P : List Int) (tk fl : Bool) : (n.held i k X P tk fl).x j = if i = j then X else n.x j := by
 obtain rfl | rfl | rfl : i = 0 ∨ i = 1 ∨ i = 2 := by omega
 all_goals
  obtain rfl | rfl | rfl : j = 0 ∨ j = 1 ∨ j = 2 := by omega
  all_goals simp [En.held, En.x]
theorem Vp (n : En) (i k j : Nat) (hj : j < 3) (hi : i < 3) (X P : List Int) (tk fl : Bool) : (n.held i k X P tk fl).p j = if i = j then P else n.p j := by
 obtain rfl | rfl | rfl : i = 0 ∨ i = 1 ∨ i = 2 := by omega
 all_goals
  obtain rfl | rfl | rfl : j = 0 ∨ j = 1 ∨ j = 2 := by omega
  all_goals simp [En.held, En.p]
theorem vJ (n : En) (i k j : Nat) (hj : j < 4) (hk : k < 4) (X P : List Int) (tk fl : Bool) : (n.held i k X P tk fl).off j = if k = j then jd tk (n.off k) else n.off j := by
 obtain rfl | rfl | rfl | rfl : k = 0 ∨ k = 1 ∨ k = 2 ∨ k = 3 := by omega
 all_goals
  obtain rfl | rfl | rfl | rfl : j = 0 ∨ j = 1 ∨ j = 2 ∨ j = 3 := by omega
  all_goals simp [En.held, En.off]
theorem uz.gd {n n' : En} {i k : Nat} {z r gate : Int} (h : uz n i k z r gate n') (G : Gd n) (hi : i < 3) (hk : k < 4) : Gd n' := by
 obtain ⟨X, P, tk, fl, H, rfl⟩ := h
 refine ⟨fun j hj => ?_, fun j hj => ?_, G.s0, G.s1, G.c0, G.c1, fun j hj => ?_, fun j hj => ?_⟩
 · rw [NV n i k j hj hi]; split
   · exact H.lX
   · exact G.lx j hj
 · rw [Vp n i k j hj hi]; split
   · exact H.lP
   · exact G.lp j hj
 · rw [vJ n i k j hj hk]; split
   · exact (y7 H.o0 H.o1).1
   · exact G.o0 j hj
 · rw [vJ n i k j hj hk]; split
   · exact (y7 H.o0 H.o1).2
   · exact G.o1 j hj
structure zN (c : Cf) (n : En) (s : Sm) (n' : En) : Prop where
 miss : s.missing = true → n' = n
 go : s.missing = false → ∃ (m1 : En) (gk : Nat → En), (s.hasB = true → uz n 2 0 s.dJ c.dJ c.gate m1) ∧ (s.hasB = false → m1 = n) ∧ gk 0 = m1 ∧ gk 3 = n' ∧
  (s.pK = true → ∀ k, k < 3 → uz (gk k) k (k + 1) (s.n k) c.dY c.gate (gk (k + 1))) ∧ (s.pK = false → ∀ k, k < 3 → gk (k + 1) = gk k)
theorem y8 (c : Cf) {n : En} (s : Sm) (G : Gd n) : ∃ n', zN c n s n' ∧ Gd n' := by
 cases hm : s.missing
 case true => exact ⟨n, ⟨fun _ => rfl, fun h => by rw [hm] at h; cases h⟩, G⟩
 have hB : ∃ m1, Gd m1 ∧ (s.hasB = true → uz n 2 0 s.dJ c.dJ c.gate m1) ∧ (s.hasB = false → m1 = n) := by
  cases hb : s.hasB
  · exact ⟨n, G, (fun h => by cases h), fun _ => rfl⟩
  · obtain ⟨m1, h⟩ := qF G (i := 2) (k := 0) (by decide) (by decide) s.dJ c.dJ c.gate
    exact ⟨m1, h.gd G (by decide) (by decide), fun _ => h, (fun h => by cases h)⟩
 obtain ⟨m1, G1, h1, h2⟩ := hB
 cases hg : s.pK
 · exact ⟨m1, ⟨fun h => by rw [hm] at h; (cases h), fun _ => ⟨m1, fun _ => m1, h1, h2, rfl, rfl, fun h => by rw [hg] at h; (cases h), fun _ _ _ => rfl⟩⟩, G1⟩
 · obtain ⟨k1, e1⟩ := qF G1 (i := 0) (k := 1) (by decide) (by decide) (s.n 0) c.dY c.gate
   have G2 := e1.gd G1 (by decide) (by decide)
   obtain ⟨k2, e2⟩ := qF G2 (i := 1) (k := 2) (by decide) (by decide) (s.n 1) c.dY c.gate
   have G3 := e2.gd G2 (by decide) (by decide)
   obtain ⟨k3, e3⟩ := qF G3 (i := 2) (k := 3) (by decide) (by decide) (s.n 2) c.dY c.gate
   refine ⟨k3, ⟨fun h => by rw [hm] at h; (cases h), fun _ => ⟨m1, fun k => match k with | 0 => m1 | 1 => k1 | 2 => k2 | _ => k3, h1, h2, rfl, rfl, fun _ k hk => ?_, fun h => by rw [hg] at h; (cases h)⟩⟩, e3.gd G3 (by decide) (by decide)⟩
   obtain rfl | rfl | rfl : k = 0 ∨ k = 1 ∨ k = 2 := by omega
   · exact e1
   · exact e2
   · exact e3
theorem QL {o : Prop} (g : Nat) (c : Cf) (e : Es) (s : Sm) (a0 a1 a2 : Int) (n' : En) (w : World) (R : Row w g 89 (wk c e s a0 a1 a2)) (hr : Ok o g w e) (hb : 0 < c.dJ) (hn : 0 < c.dY) (H : zN c e.nu s n') :
 Calls Try.prog 39 #[.pointer (some ⟨g, 0, none⟩)] w fun x w' => x = .returned (.tuple #[]) ∧ ∃ e' : Es, e'.nu = n' ∧ Ok o g w' e' ∧ gW w g c e' s a0 a1 a2 w' := by
 cases hm : s.missing
 case true =>
  refine (DD g c e s a0 a1 a2 w R hm).mono ?_
  rintro x w' ⟨rfl, rfl⟩
  exact ⟨rfl, e, (H.miss hm).symm, hr, R, dP _ _⟩
 obtain ⟨m1, gk, h1, h2, h3, h4, h5, h6⟩ := H.go hm
 have hB : ∃ XB PB S_ TS, s.hasB = true → 0 < c.dJ ∧ uJ e.nu 2 0 s.dJ c.dJ c.gate XB PB S_ TS ∧ m1 = e.nu.held 2 0 XB PB S_ (PQ.od s.dJ || TS) := by
  cases hb' : s.hasB
  · exact ⟨[], [], false, false, fun h => by cases h⟩
  · obtain ⟨X, P, tk, fl, ht, he⟩ := h1 hb'
    exact ⟨X, P, tk, fl, fun _ => ⟨hb, ht, he⟩⟩
 obtain ⟨XB, PB, S_, TS, hB⟩ := hB
 have hG : ∃ (XG PG : Nat → List Int) (SY TR : Nat → Bool), s.pK = true → 0 < c.dY ∧ ∀ k, k < 3 → uJ (gk k) k (k + 1) (s.n k) c.dY c.gate (XG k) (PG k) (SY k) (TR k) ∧ gk (k + 1) = (gk k).held k (k + 1) (XG k) (PG k) (SY k) (PQ.od (s.n k) || TR k) := by
  cases hg' : s.pK
  · exact ⟨fun _ => [], fun _ => [], fun _ => false, fun _ => false, fun h => by cases h⟩
  · obtain ⟨X0, P0, t0, f0, e0, d0⟩ := h5 hg' 0 (by decide)
    obtain ⟨X1, P1, t1, f1, e1, d1⟩ := h5 hg' 1 (by decide)
    obtain ⟨X2, P2, t2, f2, e2, d2⟩ := h5 hg' 2 (by decide)
    refine ⟨fun k => match k with | 0 => X0 | 1 => X1 | _ => X2, fun k => match k with | 0 => P0 | 1 => P1 | _ => P2, fun k => match k with | 0 => t0 | 1 => t1 | _ => t2, fun k => match k with | 0 => f0 | 1 => f1 | _ => f2, fun _ => ⟨hn, fun k hk => ?_⟩⟩
    obtain rfl | rfl | rfl : k = 0 ∨ k = 1 ∨ k = 2 := by omega
    · exact ⟨e0, d0⟩
    · exact ⟨e1, d1⟩
    · exact ⟨e2, d2⟩
 obtain ⟨XG, PG, SY, TR, hG⟩ := hG
 refine (Ia g c e s a0 a1 a2 m1 gk XB PB S_ TS XG PG SY TR w R hr hm hB h2 h3 hG h6).mono ?_
 rintro x w' ⟨rfl, e', he, ho, hw⟩
 exact ⟨rfl, e', he.trans h4, ho, hw⟩
def En.cnt (n : En) (miss : Bool) : En := { n with steps := min (n.steps + 1) 1099511627776, fJ := if miss = true then min (n.fJ + 1) 1000 else 0 }
theorem Gd.cnt {n : En} (G : Gd n) (m : Bool) : Gd (n.cnt m) :=
 ⟨fun j hj => by
   obtain rfl | rfl | rfl : j = 0 ∨ j = 1 ∨ j = 2 := by omega
   all_goals exact G.lx _ (by omega), fun j hj => by
   obtain rfl | rfl | rfl : j = 0 ∨ j = 1 ∨ j = 2 := by omega
   all_goals exact G.lp _ (by omega), by have := G.s0; simp only [En.cnt]; omega, by simp only [En.cnt]; omega, by have := G.c0; simp only [En.cnt]; split <;> omega, by simp only [En.cnt]; split <;> omega, fun k hk => by
   obtain rfl | rfl | rfl | rfl : k = 0 ∨ k = 1 ∨ k = 2 ∨ k = 3 := by omega
   all_goals exact G.o0 _ (by omega), fun k hk => by
   obtain rfl | rfl | rfl | rfl : k = 0 ∨ k = 1 ∨ k = 2 ∨ k = 3 := by omega
   all_goals exact G.o1 _ (by omega)⟩
structure Ro (n0 : Nat) (w : World) (t : Tr) : Prop where
 rw : Rw w t
 na : ∀ ad, t.A = some ad → n0 ≤ ad.block
 nb : ∀ ad, t.B = some ad → n0 ≤ ad.block
theorem Ro.below {n0 : Nat} {w w' : World} {t : Tr} (h : Ro n0 w t) (hb : Below w.heap.size w w') : Ro n0 w' t := ⟨h.rw.below hb, h.na, h.nb⟩
theorem Ro.grown {n0 : Nat} {w w' : World} {t : Tr} (h : Ro n0 w t) {b : Nat} (hg : w.grownBy w' (some b)) (hb : b < n0) : Ro n0 w' t :=
 ⟨⟨Rd.gr h.rw.x hg (fun ad e => by have := h.na ad e; omega), h.rw.xc, Rd.gr h.rw.p hg (fun ad e => by have := h.nb ad e; omega), h.rw.pd⟩, h.na, h.nb⟩
theorem Nl {w : World} {base c : Nat} {A : Option Addr} {l : List Int} (h : Own w base (.slice A l.length c) l) : ∀ ad, A = some ad → base ≤ ad.block := fun ad e => by
 subst e
 exact (h.row.lt ad.block rfl).1
def kX (c : Cf) (n : En) (s : Sm) (n' : En) : Prop := ∀ (e : Es) (w : World), e.nu = n → (∀ j, j < 3 → Rw w (e.ax j)) →
 Calls Try.prog 16 #[.agg c.R, .agg e.R, .agg s.R] w fun x w' => ∃ e' : Es, e'.nu = n' ∧ x = .returned (.tuple #[.agg e'.R, .agg #[I (n'.x0.getD 0 0), I (n'.x1.getD 0 0), I (n'.x2.getD 0 0)]]) ∧ (∀ j, j < 3 → Ro w.heap.size w' (e'.ax j)) ∧ Below w.heap.size w w'
theorem C9 (c : Cf) (n : En) (s : Sm) (n1 n3 : En) (y : Nat → Int) (G : Gd n) (hb : 0 < c.dJ) (hn : 0 < c.dY) (T : BQ s.missing c.dt n s.g0 s.g1 s.g2 s.a0 s.a1 s.a2 n1 y) (H : zN c (En.ahead c n1 y) s n3) (G3 : Gd n3) : kX c n s (n3.cnt s.missing) := by
 intro e w he hr
 subst he
 have G1 := T.gd G
 refine (J9 c e s w (fun i w' => match i with
  | 0 => Row w' (w.heap.size + 5) 89 (wk c e s 0 0 0) ∧ Ok True (w.heap.size + 5) w' e
  | 1 => ∃ e1 : Es, e1.nu = n1 ∧ Ok True (w.heap.size + 5) w' e1 ∧ Row w' (w.heap.size + 5) 89 (wk c e1 s (y 0) (y 1) (y 2))
  | 2 => ∃ e1 : Es, e1.nu = En.ahead c n1 y ∧ Ok False (w.heap.size + 5) w' e1 ∧ Row w' (w.heap.size + 5) 89 (wk c e1 s (y 0) (y 1) (y 2))
  | 3 => ∃ e1 : Es, e1.nu = n3 ∧ Ok False (w.heap.size + 5) w' e1 ∧ Row w' (w.heap.size + 5) 89 (wk c e1 s (y 0) (y 1) (y 2))
  | _ => ∃ e1 : Es, e1.nu = n3.cnt s.missing ∧ Ok False (w.heap.size + 5) w' e1 ∧ Row w' (w.heap.size + 5) 89 (wk c e1 s (y 0) (y 1) (y 2))) (fun e' => e'.nu = n3.cnt s.missing) (w.heap.size + 5) rfl ?_ ?_ ?_ ?_ ?_ ?_).mono ?_
 · intro w' R hb
   exact ⟨R, fun j hj => ((hr j hj).rx (by rw [KJ, G.lx j hj]; decide) (by rw [Nq, G.lp j hj]; decide)).below hb⟩
 · rintro w' ⟨R, ho⟩
   rcases T with ⟨hm, rfl, rfl⟩ | ⟨hm, m0, m1, m2, m3, p0, p1, p2, p3, u0, u1, u2, u3, y0, y1, y2, F1, F2, F3, F4, h1, h2, h3, h4, _, rfl, rfl⟩
   · refine (CZ _ c e s w' R hm).mono ?_
     rintro x w2 ⟨rfl, rfl⟩
     exact ⟨rfl, ⟨e, rfl, ho, R⟩, dP _ _⟩
   · refine (qB _ c e s m0 m1 m2 m3 p0 p1 p2 p3 u0 u1 u2 u3 y0 y1 y2 F1 F2 F3 F4 w' R hm h1 h2 h3 h4).mono ?_
     rintro x w2 ⟨rfl, hw⟩
     refine ⟨rfl, ⟨_, ?_, ?_, hw.row⟩, hw.gr⟩
     · rfl
     · intro j hj
       have := (ho j hj).gr hw.gr
       obtain rfl | rfl | rfl : j = 0 ∨ j = 1 ∨ j = 2 := by omega
       all_goals exact this
 · rintro w' ⟨e1, rfl, ho, R⟩
   refine (Pm _ c e1 s y w' R ho G1).mono ?_
   rintro x w2 ⟨rfl, e2, h2, ho2, hw⟩
   exact ⟨rfl, ⟨e2, h2, ho2, hw.row⟩, hw.gr⟩
 · rintro w' ⟨e1, h1, ho, R⟩
   refine (QL _ c e1 s _ _ _ n3 w' R ho hb hn (by rw [h1]; exact H)).mono ?_
   rintro x w2 ⟨rfl, e2, h2, ho2, hw⟩
   exact ⟨rfl, ⟨e2, h2, ho2, hw.row⟩, hw.gr⟩
 · rintro w' ⟨e1, rfl, ho, R⟩
   refine (FN _ c e1 s _ _ _ w' R G3.s0 G3.s1 G3.c0 G3.c1).mono ?_
   rintro x w2 ⟨rfl, hw⟩
   refine ⟨rfl, ⟨_, ?_, ?_, hw.row⟩, hw.gr⟩
   · rfl
   · intro j hj
     have := (ho j hj).gr hw.gr
     obtain rfl | rfl | rfl : j = 0 ∨ j = 1 ∨ j = 2 := by omega
     all_goals exact this
 · rintro w' ⟨e1, h1, ho, R⟩
   exact ⟨e1, _, _, _, h1, R, ho, fun j hj => by rw [KJ, h1]; exact (G3.cnt _).lx j hj⟩
 · rintro x w' ⟨e', he, rfl, hx, hb⟩
   refine ⟨e', he, ?_, fun j hj => ⟨(hx j hj).rw, fun ad e => Nat.le_of_lt (Nat.lt_of_le_of_lt (Nat.le_add_right _ 5) ((hx j hj).x.beyond ad e)), fun ad e => Nat.le_of_lt (Nat.lt_of_le_of_lt (Nat.le_add_right _ 5) ((hx j hj).p.beyond ad e))⟩, hb⟩
   rw [← he]
   rfl
end Go.Proofs.Ytnijhjbcjeohhaa.EE

namespace Go.Proofs.Ytnijhjbcjeohhaa.EE
open Go.RowKit Go.Proofs.Ytnijhjbcjeohhaa.KK Go.Proofs.af.aA Go.Proofs.af.aN Go.Proofs.af.aP
set_option linter.unusedVariables false
set_option linter.unusedSimpArgs false
def mO (q : Int) : Bool := decide (q ≤ 0) || decide (q > 17179869184)
theorem Iq (q : Int) (w : World) : Calls Try.prog 56 #[I q] w fun e w' => e = .returned (.bool (mO q)) ∧ Below w.heap.size w w' := by
 by_cases h : q ≤ 0
 · have h0 : decide (q ≤ 0) = true := decide_eq_true h
   clear h
   go_enter Try.func56, Try.ntmps56
   go_wp2
   go_ret
   exact ⟨by simp [mO, h0], Below.refl _ _⟩
 · have h0 : decide (q ≤ 0) = false := decide_eq_false h
   clear h
   go_enter Try.func56, Try.ntmps56
   go_wp2
   go_ret
   exact ⟨by simp [mO, h0], Below.refl _ _⟩
theorem MR {l : List Int} {j : Nat} {x : Int} (h : l[j]? = some x) (ha : (l.take j).any mO = false) (hx : mO x = false) : (l.take (j + 1)).any mO = false := by
 rw [List.take_add_one, h, List.any_append, ha]
 simp [hx]
theorem VT {l : List Int} {j : Nat} {x : Int} (h : l[j]? = some x) (hx : mO x = true) : l.any mO = true :=
 List.any_eq_true.2 ⟨x, List.mem_of_getElem? h, hx⟩
theorem KY (A : Option Addr) (c : Nat) (l : List Int) (w : World) (hw : Rd w A l) (hlen : l.length ≤ 1000000) :
 Calls Try.prog 81 #[.slice A l.length c, .func (.func 56) #[] #[]] w fun e w' => ∃ x, e = .returned (I x) ∧ decide (x ≥ 0) = l.any mO ∧ Below w.heap.size w w' := by
 have HW := Lib.hid hw
 have HL := Lib.hid hlen
 clear hw hlen
 go_enter Try.func81, Try.ntmps81
 go_wp2_with fail
 go_loopw [8] (fun i wr => ∃ k : Nat, k ≤ l.length ∧ i = .int .i64 k ∧ Hid ((l.take k).any mO = false) ∧ Hid (Below w.heap.size w wr)) (fun i _ => l.length - (intOf i).toNat)
 case atStart => exact ⟨0, by omega, rfl, Lib.hid (by simp), Lib.hid (Below.refl _ _)⟩
 case round =>
  obtain ⟨k, hk, rfl, F, HB⟩ := hrel
  by_cases hkl : k = l.length
  · subst hkl
    go_wp2
    go_ret
    exact ⟨_, rfl, by have := F.out; rw [List.take_length] at this; rw [this]; rfl, HB.out⟩
  have hlt : (k : Int) < l.length := by omega
  have hk0 : (0 : Int) ≤ k := by omega
  have STEP : Hid (k + 1 ≤ l.length ∧ l.length - (k + 1) < l.length - k) := Lib.hid (by omega)
  have hw64 : IntKind.i64.wrap ((k : Int) + 1) = (k : Int) + 1 := by have := HL.out; simp [IntKind.wrap, IntKind.bits, IntKind.signed]; omega
  obtain ⟨b, off, rfl, hb, hc⟩ := (HW.out.below HB.out).cells (by omega)
  obtain ⟨x, hx⟩ : ∃ x, l[k]? = some x := ⟨l[k]'(by omega), List.getElem?_eq_getElem (by omega)⟩
  have c0 := hc k x hx
  have HX := Lib.hid hx
  clear hc hx hk hkl
  go_wp2_with fail
  refine (Iq x _).mono ?_
  rintro e w2 ⟨rfl, hb2⟩
  have HB2 := Lib.hid (HB.out.trans (hb2.mono HB.out.size))
  clear hb2
  cases hq : mO x
  · have HQ := Lib.hid hq
    clear hq
    go_wp2
    go_roundw
    case rel => exact ⟨k + 1, STEP.out.1, by go_num, Lib.hid (MR HX.out F.out HQ.out), HB2⟩
    case measure =>
     have h := STEP.out.2
     show l.length - ((k : Int) + 1).toNat < l.length - ((k : Int)).toNat
     rw [show ((k : Int) + 1).toNat = k + 1 by omega, show ((k : Int)).toNat = k by omega]
     exact h
  · have HQ := Lib.hid hq
    clear hq
    go_wp2
    go_ret
    exact ⟨_, rfl, by rw [VT HX.out HQ.out]; simp, HB2.out⟩
theorem DJ (A : Option Addr) (c : Nat) (l : List Int) (w : World) (hw : Rd w A l) (hlen : l.length ≤ 1000000) :
 Calls Try.prog 55 #[.slice A l.length c, .func (.func 56) #[] #[]] w fun e w' => e = .returned (.bool (l.any mO)) ∧ Below w.heap.size w w' := by
 have H := Lib.hid (KY A c l w hw hlen)
 clear hw hlen
 go_enter Try.func55, Try.ntmps55
 go_wp2_with fail
 refine H.out.mono ?_
 rintro e w2 ⟨x, rfl, hx, hb⟩
 have HB := Lib.hid hb
 have HX := Lib.hid hx
 clear hb hx
 go_wp2
 go_ret
 exact ⟨by rw [← HX.out]; rfl, HB.out⟩
def Cf.l (c : Cf) : List Int := [c.dt, c.acc, c.bias, c.dJ, c.dY, c.gate]
def Cf.may (c : Cf) : Bool := !c.l.any mO
theorem KP (c : Cf) (w : World) : Calls Try.prog 35 #[.agg c.row] w fun e w' => e = .returned (.bool c.may) ∧ Below w.heap.size w w' := by
 have H : Hid (Calls Try.prog 55 #[.slice (some ⟨w.heap.size + 1, 0, none⟩) 6 6, .func (.func 56) #[] #[]] ((w.alloc (.cells c.row 24)).alloc (.cells #[I c.dt, I c.acc, I c.bias, I c.dJ, I c.dY, I c.gate] 22)) fun e w' => e = .returned (.bool (c.l.any mO)) ∧ Below ((w.alloc (.cells c.row 24)).alloc (.cells #[I c.dt, I c.acc, I c.bias, I c.dJ, I c.dY, I c.gate] 22)).heap.size ((w.alloc (.cells c.row 24)).alloc (.cells #[I c.dt, I c.acc, I c.bias, I c.dJ, I c.dY, I c.gate] 22)) w') := Lib.hid (by
  have hr := Rd.new (w.alloc (.cells c.row 24)) 22 c.l (by simp [Cf.l])
  have := DJ (some ⟨(w.alloc (.cells c.row 24)).heap.size, 0, none⟩) 6 c.l _ hr (by simp [Cf.l])
  rw [World.size_alloc] at this
  exact this)
 have B0 := Lib.hid (((Below.refl w.heap.size w).alloc (Nat.le_refl _) (.cells c.row 24)).alloc (by simp) (.cells #[I c.dt, I c.acc, I c.bias, I c.dJ, I c.dY, I c.gate] 22))
 go_enter Try.func35, Try.ntmps35
 go_wp2_with fail
 refine H.out.mono ?_
 rintro e w2 ⟨rfl, hb⟩
 have HB := Lib.hid (B0.out.trans (hb.mono B0.out.size))
 clear hb
 go_wp2
 go_ret
 exact ⟨rfl, HB.out⟩
theorem Ro.own {w : World} {base c d n0 : Nat} {A B : Option Addr} {x p : List Int} (h : Own w base (.slice A x.length c) x) (k : Own w base (.slice B p.length d) p) (hn : n0 ≤ base) : Ro n0 w ⟨A, c, x, B, d, p⟩ :=
 ⟨⟨(PR.Own.rd h).1, (PR.Own.rd h).2, (PR.Own.rd k).1, (PR.Own.rd k).2⟩, fun ad e => Nat.le_trans hn (Nl h ad e), fun ad e => Nat.le_trans hn (Nl k ad e)⟩
def tY : List Int := eF [1677721600, 167772160, 16777216]
def pJ (t : Nat → Tr) : Nat → Array Value
 | 0 => #[I 16777216, I 0, I 0, I 0, I 0, I 0, .slice none 0 0, I 0, I 0, .slice none 0 0, I 0, I 0, .slice none 0 0, I 0, I 0, .slice none 0 0, I 0, I 0, .slice none 0 0, I 0, I 0, .slice none 0 0, I 0, I 0, I 0, I 0, I 0, I 0, .bool false]
 | 1 => #[I 16777216, I 0, I 0, I 0, I 3, I 1, .slice (t 0).A 3 (t 0).c, I 3, I 3, .slice (t 0).B 9 (t 0).d, I 0, I 0, .slice none 0 0, I 0, I 0, .slice none 0 0, I 0, I 0, .slice none 0 0, I 0, I 0, .slice none 0 0, I 0, I 0, I 0, I 0, I 0, I 0, .bool false]
 | 2 => #[I 16777216, I 0, I 0, I 0, I 3, I 1, .slice (t 0).A 3 (t 0).c, I 3, I 3, .slice (t 0).B 9 (t 0).d, I 3, I 1, .slice (t 1).A 3 (t 1).c, I 3, I 3, .slice (t 1).B 9 (t 1).d, I 0, I 0, .slice none 0 0, I 0, I 0, .slice none 0 0, I 0, I 0, I 0, I 0, I 0, I 0, .bool false]
 | _ => #[I 16777216, I 0, I 0, I 0, I 3, I 1, .slice (t 0).A 3 (t 0).c, I 3, I 3, .slice (t 0).B 9 (t 0).d, I 3, I 1, .slice (t 1).A 3 (t 1).c, I 3, I 3, .slice (t 1).B 9 (t 1).d, I 3, I 1, .slice (t 2).A 3 (t 2).c, I 3, I 3, .slice (t 2).B 9 (t 2).d, I 0, I 0, I 0, I 0, I 0, I 0, .bool false]
theorem yK {P : Program} {fn : Func} {p u : Tmp} {ty : TypeId} (h : fn.results = #[.cell p ty, .tmp u]) (tmps : Array Value) (w : World) (g : Nat) (cs : List Value) (d : TypeDesc)
 (hp : tmps.getD p undef = .pointer (some ⟨g, 0, none⟩)) (hg : w.rangeAt g 0 cs) (hu : P.underlying ty = some d) (hd : d.isRow = true) (hi : (P.info? ty).map (·.size) = some cs.length) :
 (results fn tmps).run P w = .ok (.tuple #[.agg cs.toArray, tmps.getD u undef]) w := by
 have h1 : tmps[p]?.getD undef = .pointer (some ⟨g, 0, none⟩) := by simpa using hp
 simp [results, h, h1, asAddr, run_loadVar_mid w g 0 ty cs d hg hu hd hi]
theorem Dy (A1 A2 : Option Addr) (w : World) (rx : Rd w A1 [0, 0, 0]) (rv : Rd w A2 [1677721600, 167772160, 16777216]) :
 Calls Try.prog 36 #[.slice A1 3 3, .slice A2 3 3] w fun e w' => ∃ t : Tr, e = .returned (.tuple #[.agg #[I 3, I 1, .slice t.A 3 t.c, I 3, I 3, .slice t.B 9 t.d], I 0]) ∧ t.x = [0, 0, 0] ∧ t.p = tY ∧ Ro w.heap.size w' t ∧ Below w.heap.size w w' := by
 refine (PR.Ht A1 A2 3 3 [0, 0, 0] [1677721600, 167772160, 16777216] w rx (by decide) rv (by decide) ⟨rfl, by decide, by decide, ?_, ?_, ?_⟩).mono ?_
 · intro j
   match j with
   | 0 | 1 | 2 => decide
   | j + 3 => simp
 · intro j
   match j with
   | 0 | 1 | 2 => decide
   | j + 3 => simp
 · intro j
   match j with
   | 0 | 1 | 2 => decide
   | j + 3 => simp
 · rintro e w' ⟨Ax, dx, Ap, dp, rfl, ox, hx, op, hp, hb⟩
   exact ⟨⟨Ax, dx, [0, 0, 0], Ap, dp, tY⟩, rfl, rfl, rfl, Ro.own ox op (Nat.le_refl _), hb⟩
end Go.Proofs.Ytnijhjbcjeohhaa.EE

namespace Go.Proofs.Ytnijhjbcjeohhaa.EE
open Go.RowKit Go.Proofs.Ytnijhjbcjeohhaa.KK Go.Proofs.af.aA Go.Proofs.af.aN Go.Proofs.af.aP
set_option linter.unusedVariables false
set_option linter.unusedSimpArgs false
abbrev six (w : World) (B o : Nat) (a b c d e f : Value) : World := (((((w.setCell ⟨B, o, none⟩ a).setCell ⟨B, o + 1, none⟩ b).setCell ⟨B, o + 2, none⟩ c).setCell ⟨B, o + 3, none⟩ d).setCell ⟨B, o + 4, none⟩ e).setCell ⟨B, o + 5, none⟩ f
theorem Kv : ∀ (vs pre rest : List Value), rest.length = vs.length → EC (pre ++ rest) pre.length vs = pre ++ vs := by
 intro vs
 induction vs with
 | nil => intro pre rest h; simp only [List.length_nil, List.length_eq_zero_iff] at h; subst h; rfl
 | cons v vs ih =>
   intro pre rest h
   cases rest with
   | nil => simp at h
   | cons r rest =>
     have := ih (pre ++ [v]) rest (by simpa using h)
     simpa [EC] using this
theorem Row.full {w : World} {B : Nat} {t : TypeId} {C : Array Value} (R : Row w B t C) (D : Array Value) (h : D.size = C.size) : Row (w.setCells B 0 D.toList) B t D := by
 obtain ⟨arr, h1, h2⟩ := KK.Row.setCells D.toList 0 w C R
 have h3 := Kv D.toList [] C.toList (by simp [h])
 simp only [List.nil_append, List.length_nil] at h3
 rw [h3] at h2
 have : arr = D := Array.toList_inj.mp h2
 rwa [this] at h1
def y5 : Array Value := pJ (fun _ => ⟨none, 0, [], none, 0, []⟩) 0
def Dj (t : Nat → Tr) (k : Nat) (u : Tr) : Nat → Tr := fun j => if j = k then u else t j
theorem Qr (t : Nat → Tr) (u : Tr) : ((((((pJ t 0).setIfInBounds 4 (I 3)).setIfInBounds 5 (I 1)).setIfInBounds 6 (.slice u.A 3 u.c)).setIfInBounds 7 (I 3)).setIfInBounds 8 (I 3)).setIfInBounds 9 (.slice u.B 9 u.d) = pJ (Dj t 0 u) 1 := by kernel_rfl
theorem Qq (t : Nat → Tr) (u : Tr) : ((((((pJ t 1).setIfInBounds 10 (I 3)).setIfInBounds 11 (I 1)).setIfInBounds 12 (.slice u.A 3 u.c)).setIfInBounds 13 (I 3)).setIfInBounds 14 (I 3)).setIfInBounds 15 (.slice u.B 9 u.d) = pJ (Dj t 1 u) 2 := by kernel_rfl
theorem Qp (t : Nat → Tr) (u : Tr) : ((((((pJ t 2).setIfInBounds 16 (I 3)).setIfInBounds 17 (I 1)).setIfInBounds 18 (.slice u.A 3 u.c)).setIfInBounds 19 (I 3)).setIfInBounds 20 (I 3)).setIfInBounds 21 (.slice u.B 9 u.d) = pJ (Dj t 2 u) 3 := by kernel_rfl
theorem _root_.Go.Proofs.Ytnijhjbcjeohhaa.KK.aS.six {w0 w : World} {L : List (TypeId × Array Value)} (h : aS w0 L w) {B : Nat} (hp : w0.heap.size + L.length ≤ B) (o : Nat) (a b c d e f : Value) : aS w0 L (EE.six w B o a b c d e f) :=
 (((((aS.set h (p := ⟨B, o, none⟩) hp a).set (p := ⟨B, o + 1, none⟩) hp b).set (p := ⟨B, o + 2, none⟩) hp c).set (p := ⟨B, o + 3, none⟩) hp d).set (p := ⟨B, o + 4, none⟩) hp e).set (p := ⟨B, o + 5, none⟩) hp f
theorem nO (w : World) (B o : Nat) (a b c d e f : Value) : w.grownBy (six w B o a b c d e f) (some B) :=
 bF (bF (bF (bF (bF (bF (dP _ _) _ _) _ _) _ _) _ _) _ _) _ _
theorem Ro.alloc {n0 : Nat} {w : World} {t : Tr} (h : Ro n0 w t) (o : Obj) : Ro n0 (w.alloc o) t := h.below ((Below.refl _ _).alloc (Nat.le_refl _) o)
theorem Ro.mono {n0 n1 : Nat} {w : World} {t : Tr} (h : Ro n0 w t) (hn : n1 ≤ n0) : Ro n1 w t := ⟨h.rw, fun ad e => Nat.le_trans hn (h.na ad e), fun ad e => Nat.le_trans hn (h.nb ad e)⟩
theorem rF {P : Program} {fn : Func} {p u : Tmp} {ty : TypeId} (h : fn.results = #[.cell p ty, .tmp u]) (tmps : Array Value) (w : World) (g : Nat) (C : Array Value) (d : TypeDesc)
 (hp : tmps.getD p undef = .pointer (some ⟨g, 0, none⟩)) (hg : w.rangeAt g 0 C.toList) (hu : P.underlying ty = some d) (hd : d.isRow = true) (hi : (P.info? ty).map (·.size) = some C.size) :
 (results fn tmps).run P w = .ok (.tuple #[.agg C, tmps.getD u undef]) w := by
 have := yK h tmps w g C.toList d hp hg hu hd (by simpa using hi)
 simpa using this
theorem Row.whole {w : World} {B : Nat} {t : TypeId} {C : Array Value} (R : Row w B t C) : w.rangeAt B 0 C.toList := Row.range R 0 _ (by simp)
theorem H9 (c : Cf) (w : World) (hm : c.may = true) : Calls Try.prog 15 #[.agg c.row] w fun x w' => ∃ t : Nat → Tr, x = .returned (.tuple #[.agg (pJ t 3), I 0]) ∧ (∀ j, j < 3 → (t j).x = [0, 0, 0] ∧ (t j).p = tY ∧ Ro w.heap.size w' (t j)) ∧ Below w.heap.size w w' := by
 have HM := Lib.hid hm
 have L : Hid (aS w [(24, c.row), (37, #[.int .i64 0, .int .i64 0, .int .i64 0, .int .i64 0, .int .i64 0, .int .i64 0, .slice none 0 0, .int .i64 0, .int .i64 0, .slice none 0 0, .int .i64 0, .int .i64 0, .slice none 0 0, .int .i64 0, .int .i64 0, .slice none 0 0, .int .i64 0, .int .i64 0, .slice none 0 0, .int .i64 0, .int .i64 0, .slice none 0 0, .int .i64 0, .int .i64 0, .int .i64 0, .int .i64 0, .int .i64 0, .int .i64 0, .bool false])] (((w.alloc (.cells c.row 24)).alloc (.cells #[.int .i64 0, .int .i64 0, .int .i64 0, .int .i64 0, .int .i64 0, .int .i64 0, .slice none 0 0, .int .i64 0, .int .i64 0, .slice none 0 0, .int .i64 0, .int .i64 0, .slice none 0 0, .int .i64 0, .int .i64 0, .slice none 0 0, .int .i64 0, .int .i64 0, .slice none 0 0, .int .i64 0, .int .i64 0, .slice none 0 0, .int .i64 0, .int .i64 0, .int .i64 0, .int .i64 0, .int .i64 0, .int .i64 0, .bool false] 37)))) := Lib.hid (((aS.none w).push (by simp) _ _).push (by simp) _ _)
 have LZ : Hid (((w.alloc (.cells c.row 24)).alloc (.cells #[.int .i64 0, .int .i64 0, .int .i64 0, .int .i64 0, .int .i64 0, .int .i64 0, .slice none 0 0, .int .i64 0, .int .i64 0, .slice none 0 0, .int .i64 0, .int .i64 0, .slice none 0 0, .int .i64 0, .int .i64 0, .slice none 0 0, .int .i64 0, .int .i64 0, .slice none 0 0, .int .i64 0, .int .i64 0, .slice none 0 0, .int .i64 0, .int .i64 0, .int .i64 0, .int .i64 0, .int .i64 0, .int .i64 0, .bool false] 37)).heap.size = w.heap.size + 2) := Lib.hid (by simp)
 clear hm
 go_enter Try.func15, Try.ntmps15
 go_upto_region 1 with fail
 generalize ((w.alloc (.cells c.row 24)).alloc (.cells #[.int .i64 0, .int .i64 0, .int .i64 0, .int .i64 0, .int .i64 0, .int .i64 0, .slice none 0 0, .int .i64 0, .int .i64 0, .slice none 0 0, .int .i64 0, .int .i64 0, .slice none 0 0, .int .i64 0, .int .i64 0, .slice none 0 0, .int .i64 0, .int .i64 0, .slice none 0 0, .int .i64 0, .int .i64 0, .slice none 0 0, .int .i64 0, .int .i64 0, .int .i64 0, .int .i64 0, .int .i64 0, .int .i64 0, .bool false] 37)) = w2 at L LZ ⊢
 have hc := L.out.r0.cell
 go_wp2_with fail
 refine (KP c _).mono ?_
 rintro x w3 ⟨rfl, hb⟩
 have L3 := Lib.hid (L.out.below hb)
 clear hb hc L
 rw [HM.out]
 have ZV : Hid (∀ w', (Instr.build 37 #[(0, .agg #[I 16777216, I 0, I 0, I 0])]).run Try.prog w' = .ok (.agg y5) w') := Lib.hid (fun w' => by kernel_rfl)
 have HT : Hid ((w3.alloc (.cells #[.int .i64 0, .int .i64 0, .int .i64 0, .int .i64 0, .int .i64 0, .int .i64 0, .slice none 0 0, .int .i64 0, .int .i64 0, .slice none 0 0, .int .i64 0, .int .i64 0, .slice none 0 0, .int .i64 0, .int .i64 0, .slice none 0 0, .int .i64 0, .int .i64 0, .slice none 0 0, .int .i64 0, .int .i64 0, .slice none 0 0, .int .i64 0, .int .i64 0, .int .i64 0, .int .i64 0, .int .i64 0, .int .i64 0, .bool false] 37)).there w3.heap.size 0 y5.size) := Lib.hid (by have h := Row.there (Row.new w3 37 #[.int .i64 0, .int .i64 0, .int .i64 0, .int .i64 0, .int .i64 0, .int .i64 0, .slice none 0 0, .int .i64 0, .int .i64 0, .slice none 0 0, .int .i64 0, .int .i64 0, .slice none 0 0, .int .i64 0, .int .i64 0, .slice none 0 0, .int .i64 0, .int .i64 0, .slice none 0 0, .int .i64 0, .int .i64 0, .slice none 0 0, .int .i64 0, .int .i64 0, .int .i64 0, .int .i64 0, .int .i64 0, .int .i64 0, .bool false]); exact h)
 have i37 : Hid ((Try.prog.info? 37).map (·.size) = some y5.size) := Lib.hid (by kernel_rfl)
 have one : Hid (y5.all (·.oneCell') = true) := Lib.hid (by kernel_rfl)
 have R4 : Hid (Row ((w3.alloc (.cells #[.int .i64 0, .int .i64 0, .int .i64 0, .int .i64 0, .int .i64 0, .int .i64 0, .slice none 0 0, .int .i64 0, .int .i64 0, .slice none 0 0, .int .i64 0, .int .i64 0, .slice none 0 0, .int .i64 0, .int .i64 0, .slice none 0 0, .int .i64 0, .int .i64 0, .slice none 0 0, .int .i64 0, .int .i64 0, .slice none 0 0, .int .i64 0, .int .i64 0, .int .i64 0, .int .i64 0, .int .i64 0, .int .i64 0, .bool false] 37)).setCells w3.heap.size 0 y5.toList) w3.heap.size 37 y5) := Lib.hid (Row.full (Row.new w3 37 #[.int .i64 0, .int .i64 0, .int .i64 0, .int .i64 0, .int .i64 0, .int .i64 0, .slice none 0 0, .int .i64 0, .int .i64 0, .slice none 0 0, .int .i64 0, .int .i64 0, .slice none 0 0, .int .i64 0, .int .i64 0, .slice none 0 0, .int .i64 0, .int .i64 0, .slice none 0 0, .int .i64 0, .int .i64 0, .slice none 0 0, .int .i64 0, .int .i64 0, .int .i64 0, .int .i64 0, .int .i64 0, .int .i64 0, .bool false]) y5 rfl)
 have L4 : Hid (aS w [(24, c.row), (37, #[.int .i64 0, .int .i64 0, .int .i64 0, .int .i64 0, .int .i64 0, .int .i64 0, .slice none 0 0, .int .i64 0, .int .i64 0, .slice none 0 0, .int .i64 0, .int .i64 0, .slice none 0 0, .int .i64 0, .int .i64 0, .slice none 0 0, .int .i64 0, .int .i64 0, .slice none 0 0, .int .i64 0, .int .i64 0, .slice none 0 0, .int .i64 0, .int .i64 0, .int .i64 0, .int .i64 0, .int .i64 0, .int .i64 0, .bool false])] ((w3.alloc (.cells #[.int .i64 0, .int .i64 0, .int .i64 0, .int .i64 0, .int .i64 0, .int .i64 0, .slice none 0 0, .int .i64 0, .int .i64 0, .slice none 0 0, .int .i64 0, .int .i64 0, .slice none 0 0, .int .i64 0, .int .i64 0, .slice none 0 0, .int .i64 0, .int .i64 0, .slice none 0 0, .int .i64 0, .int .i64 0, .slice none 0 0, .int .i64 0, .int .i64 0, .int .i64 0, .int .i64 0, .int .i64 0, .int .i64 0, .bool false] 37)).setCells w3.heap.size 0 y5.toList)) := Lib.hid (aS.app (L3.out.alloc _) (iH y5.toList 0 _) (fun g e => by injection e with e; subst e; exact L3.out.rows.le L3.out.be.size))
 have LB : Hid (w.heap.size + 2 ≤ w3.heap.size) := Lib.hid (L3.out.rows.le L3.out.be.size)
 go_upto_region 4 with (first
  | (with_reducible refine wpList_build rfl 37 #[(0, .tmp 10)] rfl #[(0, .agg #[I 16777216, I 0, I 0, I 0])] (by kernel_rfl) _ (ZV.out _) ?_)
  | (with_reducible refine wpList_store_mid rfl 37 (.tmp 4) (.tmp 11) rfl w3.heap.size 0 y5 rfl rfl HT.out i37.out one.out ?_))
 clear ZV HT i37 one L3
 generalize (w3.alloc (.cells #[.int .i64 0, .int .i64 0, .int .i64 0, .int .i64 0, .int .i64 0, .int .i64 0, .slice none 0 0, .int .i64 0, .int .i64 0, .slice none 0 0, .int .i64 0, .int .i64 0, .slice none 0 0, .int .i64 0, .int .i64 0, .slice none 0 0, .int .i64 0, .int .i64 0, .slice none 0 0, .int .i64 0, .int .i64 0, .slice none 0 0, .int .i64 0, .int .i64 0, .int .i64 0, .int .i64 0, .int .i64 0, .int .i64 0, .bool false] 37)).setCells w3.heap.size 0 y5.toList = w4 at R4 L4 ⊢
 generalize w3.heap.size = B at R4 LB ⊢
 go_wp2_with fail
 go_loopw [12] (fun i wl => ∃ (k : Nat) (t : Nat → Tr), k ≤ 3 ∧ i = .int .i64 k ∧ Hid (aS w [(24, c.row), (37, #[.int .i64 0, .int .i64 0, .int .i64 0, .int .i64 0, .int .i64 0, .int .i64 0, .slice none 0 0, .int .i64 0, .int .i64 0, .slice none 0 0, .int .i64 0, .int .i64 0, .slice none 0 0, .int .i64 0, .int .i64 0, .slice none 0 0, .int .i64 0, .int .i64 0, .slice none 0 0, .int .i64 0, .int .i64 0, .slice none 0 0, .int .i64 0, .int .i64 0, .int .i64 0, .int .i64 0, .int .i64 0, .int .i64 0, .bool false])] wl) ∧ Hid (Row wl B 37 (pJ t k)) ∧ Hid (∀ j, j < k → (t j).x = [0, 0, 0] ∧ (t j).p = tY ∧ Ro (B + 1) wl (t j))) (fun i _ => 3 - (intOf i).toNat)
 case atStart => exact ⟨0, (fun _ => ⟨none, 0, [], none, 0, []⟩), by omega, rfl, L4, R4, Lib.hid (fun j hj => by omega)⟩
 case round =>
  clear L4 R4
  obtain ⟨k, t, hk, rfl, L, R, T⟩ := hrel
  have mk : ∀ w', (Instr.makeSlice 29 (.int .i64 3) (.int .i64 3)).run Try.prog w' = .ok (.slice (some ⟨w'.heap.size, 0, none⟩) 3 3) (w'.alloc (.cells #[I 0, I 0, I 0] 22)) := fun w' => by
   have h := Bj w' 3 (by decide)
   rw [show madeCells #[I 0] 3 = #[I 0, I 0, I 0] from by kernel_rfl] at h
   exact h
  have RX : Hid (∀ w' : World, Rd ((w'.alloc (.cells #[I 0, I 0, I 0] 22)).alloc (.cells #[I 1677721600, I 167772160, I 16777216] 22)) (some ⟨w'.heap.size, 0, none⟩) [0, 0, 0]) := Lib.hid (fun w' => (Rd.new w' 22 [0, 0, 0] (by simp)).below ((Below.refl _ _).alloc (Nat.le_refl _) _))
  have RV : Hid (∀ w' : World, Rd ((w'.alloc (.cells #[I 0, I 0, I 0] 22)).alloc (.cells #[I 1677721600, I 167772160, I 16777216] 22)) (some ⟨w'.heap.size + 1, 0, none⟩) [1677721600, 167772160, 16777216]) := Lib.hid (fun w' => by
   have h := Rd.new (w'.alloc (.cells #[I 0, I 0, I 0] 22)) 22 [1677721600, 167772160, 16777216] (by simp)
   rw [World.size_alloc] at h
   exact h)
  obtain rfl | rfl | rfl | rfl : k = 3 ∨ k = 0 ∨ k = 1 ∨ k = 2 := by omega
  · clear mk RX RV
    have RA := Lib.hid (Row.whole R.out)
    have i37 : Hid ((Try.prog.info? 37).map (·.size) = some (pJ t 3).toList.length) := Lib.hid (by kernel_rfl)
    have xZ : Hid ((Try.prog.info? 37).map (·.size) = some (pJ t 3).size) := Lib.hid (by kernel_rfl)
    have one : Hid ((pJ t 3).all (·.oneCell') = true) := Lib.hid (by kernel_rfl)
    have HT : Hid (wr.there (w.heap.size + 1) 0 (pJ t 3).size) := Lib.hid (by have h := Row.there L.out.r1; exact h)
    go_wp2_with (first
     | (with_reducible refine wpList_load_mid rfl 37 (.tmp 4) rfl B 0 rfl (pJ t 3).toList _ RA.out Try.underlying37 rfl i37.out ?_)
     | (with_reducible refine wpList_store_mid rfl 37 (.tmp 2) (.tmp 25) rfl (w.heap.size + 1) 0 (pJ t 3) rfl rfl HT.out xZ.out one.out ?_))
    refine bodyPost_ret (rF rfl _ _ (w.heap.size + 1) (pJ t 3) _ rfl (World.rangeAt_setCells_same _ _ _ _ (by have h := HT.out; simpa using h)) Try.underlying37 rfl xZ.out) rfl ?_
    refine ⟨t, rfl, fun j hj => ⟨(T.out j hj).1, (T.out j hj).2.1, ((T.out j hj).2.2.grown (iH _ _ _) (by have := LB.out; omega)).mono (by have := LB.out; omega)⟩, KK.dF _ _ _ L.out.be (by omega)⟩
  · go_wp2_with fail
    refine (Dy _ _ _ (RX.out _) (RV.out _)).mono ?_
    rintro x w5 ⟨u, rfl, ux, up, uo, hb⟩
    have L5 := Lib.hid (((L.out.alloc _).alloc _).below hb)
    have R5 := Lib.hid (Row.below ((R.out.alloc _).alloc _) hb ((R.out.alloc _).alloc _).lt)
    have T5 : Hid (∀ j, j < 0 → (t j).x = [0, 0, 0] ∧ (t j).p = tY ∧ Ro (B + 1) w5 (t j)) := Lib.hid (fun j hj => ⟨(T.out j hj).1, (T.out j hj).2.1, (((T.out j hj).2.2.alloc _).alloc _).below hb⟩)
    have U5 : Hid (u.x = [0, 0, 0] ∧ u.p = tY ∧ Ro (B + 1) w5 u) := Lib.hid ⟨ux, up, uo.mono (by have := R.out.lt; simp; omega)⟩
    clear ux up uo hb L R T mk RX RV
    have c5 := R5.out.cell
    have f5 := R5.out.free
    simp only [pJ] at c5
    go_wp2
    go_roundw
    case rel =>
     refine ⟨0 + 1, Dj t 0 u, by omega, by go_num, Lib.hid (L5.out.six LB.out 4 _ _ _ _ _ _), Lib.hid ?_, Lib.hid ?_⟩
     · rw [← Qr]
       exact (((((R5.out.set 4 _).set 5 _).set 6 _).set 7 _).set 8 _).set 9 _
     · intro j hj
       by_cases h : j = 0
       · subst h
         exact ⟨U5.out.1, U5.out.2.1, U5.out.2.2.grown (nO _ _ 4 _ _ _ _ _ _) (Nat.lt_succ_self _)⟩
       · have h1 := T5.out j (by omega)
         have e : Dj t 0 u j = t j := if_neg h
         rw [e]
         exact ⟨h1.1, h1.2.1, h1.2.2.grown (nO _ _ 4 _ _ _ _ _ _) (Nat.lt_succ_self _)⟩
    case measure => simp [intOf]
  · go_wp2_with fail
    refine (Dy _ _ _ (RX.out _) (RV.out _)).mono ?_
    rintro x w5 ⟨u, rfl, ux, up, uo, hb⟩
    have L5 := Lib.hid (((L.out.alloc _).alloc _).below hb)
    have R5 := Lib.hid (Row.below ((R.out.alloc _).alloc _) hb ((R.out.alloc _).alloc _).lt)
    have T5 : Hid (∀ j, j < 1 → (t j).x = [0, 0, 0] ∧ (t j).p = tY ∧ Ro (B + 1) w5 (t j)) := Lib.hid (fun j hj => ⟨(T.out j hj).1, (T.out j hj).2.1, (((T.out j hj).2.2.alloc _).alloc _).below hb⟩)
    have U5 : Hid (u.x = [0, 0, 0] ∧ u.p = tY ∧ Ro (B + 1) w5 u) := Lib.hid ⟨ux, up, uo.mono (by have := R.out.lt; simp; omega)⟩
    clear ux up uo hb L R T mk RX RV
    have c5 := R5.out.cell
    have f5 := R5.out.free
    simp only [pJ] at c5
    go_wp2
    go_roundw
    case rel =>
     refine ⟨1 + 1, Dj t 1 u, by omega, by go_num, Lib.hid (L5.out.six LB.out 10 _ _ _ _ _ _), Lib.hid ?_, Lib.hid ?_⟩
     · rw [← Qq]
       exact (((((R5.out.set 10 _).set 11 _).set 12 _).set 13 _).set 14 _).set 15 _
     · intro j hj
       by_cases h : j = 1
       · subst h
         exact ⟨U5.out.1, U5.out.2.1, U5.out.2.2.grown (nO _ _ 10 _ _ _ _ _ _) (Nat.lt_succ_self _)⟩
       · have h1 := T5.out j (by omega)
         have e : Dj t 1 u j = t j := if_neg h
         rw [e]
         exact ⟨h1.1, h1.2.1, h1.2.2.grown (nO _ _ 10 _ _ _ _ _ _) (Nat.lt_succ_self _)⟩
    case measure => simp [intOf]
  · go_wp2_with fail
    refine (Dy _ _ _ (RX.out _) (RV.out _)).mono ?_
    rintro x w5 ⟨u, rfl, ux, up, uo, hb⟩
    have L5 := Lib.hid (((L.out.alloc _).alloc _).below hb)
    have R5 := Lib.hid (Row.below ((R.out.alloc _).alloc _) hb ((R.out.alloc _).alloc _).lt)
    have T5 : Hid (∀ j, j < 2 → (t j).x = [0, 0, 0] ∧ (t j).p = tY ∧ Ro (B + 1) w5 (t j)) := Lib.hid (fun j hj => ⟨(T.out j hj).1, (T.out j hj).2.1, (((T.out j hj).2.2.alloc _).alloc _).below hb⟩)
    have U5 : Hid (u.x = [0, 0, 0] ∧ u.p = tY ∧ Ro (B + 1) w5 u) := Lib.hid ⟨ux, up, uo.mono (by have := R.out.lt; simp; omega)⟩
    clear ux up uo hb L R T mk RX RV
    have c5 := R5.out.cell
    have f5 := R5.out.free
    simp only [pJ] at c5
    go_wp2
    go_roundw
    case rel =>
     refine ⟨2 + 1, Dj t 2 u, by omega, by go_num, Lib.hid (L5.out.six LB.out 16 _ _ _ _ _ _), Lib.hid ?_, Lib.hid ?_⟩
     · rw [← Qp]
       exact (((((R5.out.set 16 _).set 17 _).set 18 _).set 19 _).set 20 _).set 21 _
     · intro j hj
       by_cases h : j = 2
       · subst h
         exact ⟨U5.out.1, U5.out.2.1, U5.out.2.2.grown (nO _ _ 16 _ _ _ _ _ _) (Nat.lt_succ_self _)⟩
       · have h1 := T5.out j (by omega)
         have e : Dj t 2 u j = t j := if_neg h
         rw [e]
         exact ⟨h1.1, h1.2.1, h1.2.2.grown (nO _ _ 16 _ _ _ _ _ _) (Nat.lt_succ_self _)⟩
    case measure => simp [intOf]
end Go.Proofs.Ytnijhjbcjeohhaa.EE

namespace Go.Proofs.Ytnijhjbcjeohhaa.EE
open Go.RowKit Go.Proofs.Ytnijhjbcjeohhaa.KK Go.Proofs.af.aA Go.Proofs.af.aN Go.Proofs.af.aP
set_option linter.unusedVariables false
set_option linter.unusedSimpArgs false
def Rq (q : Int) : Bool := decide (q < 0) || decide (q > 1000)
theorem Rd.part {w : World} {b o : Nat} {t : TypeId} {C : Array Value} {l : List Int} (R : Row w b t C) (hl : l.length ≤ 1000) (h : ∀ j x, l[j]? = some x → C[o + j]? = some (I x)) : Rd w (some ⟨b, o, none⟩) l := by
 refine ⟨rfl, by show l.length ≤ _; omega, fun hp => ⟨_, rfl, fun j x hx => ?_⟩⟩
 refine ⟨[I x], by first | rfl | (show _ ≤ _; omega) | trivial, rfl, fun k u hu => ?_⟩
 have hk : k = 0 := by
  cases k with
  | zero => rfl
  | succ k => simp at hu
 subst hk
 simp at hu
 subst hu
 have h1 : (Kd.int .i64).sz = 1 := rfl
 have ea : ∀ n, (⟨b, o, none⟩ : Addr).add n = ⟨b, o + n, none⟩ := fun n => by unfold Addr.add; split <;> simp_all
 rw [h1, Nat.mul_one, Nat.add_zero, ea, R.cell]
 exact h j x hx
end Go.Proofs.Ytnijhjbcjeohhaa.EE

namespace Go.Proofs.Ytnijhjbcjeohhaa.EE
open Go.RowKit Go.Proofs.Ytnijhjbcjeohhaa.KK Go.Proofs.af.aA Go.Proofs.af.aN Go.Proofs.af.aP
set_option linter.unusedVariables false
set_option linter.unusedSimpArgs false
abbrev adk (w : World) (base : Nat) (v : Value) (l : List Int) : Prop := w.ownsRow base 2 1 v l.length (l.map I)
end Go.Proofs.Ytnijhjbcjeohhaa.EE

namespace Go.Proofs.Ytnijhjbcjeohhaa.EE
open Go.RowKit Go.Proofs.Ytnijhjbcjeohhaa.KK Go.Proofs.af.aA Go.Proofs.af.aN Go.Proofs.af.aP
set_option linter.unusedVariables false
set_option linter.unusedSimpArgs false
structure Wd (w : World) (e : Es) (l : List Int) (v : Value) (wl : World) : Prop where
 out : Row wl (w.heap.size + 1) 52 #[v]
 own : adk wl (w.heap.size + 2) v l
 est : Row wl w.heap.size 37 e.R
 be : Below w.heap.size w wl
section
variable {w wl w1 w2 : World} {e : Es} {l : List Int} {v v' : Value}
theorem Wd.size (h : Wd w e l v wl) : w.heap.size + 2 ≤ wl.heap.size := h.out.lt
theorem Wd.below (h : Wd w e l v wl) (hb : Below wl.heap.size wl w1) : Wd w e l v w1 :=
 ⟨h.out.below hb h.out.lt, mg h.own fun k hk => hb.block k (h.own.lt k hk).2, h.est.below hb h.est.lt, h.be.trans (hb.mono h.be.size)⟩
theorem Wd.alloc (h : Wd w e l v wl) (o : Obj) : Wd w e l v (wl.alloc o) := h.below ((Below.refl _ _).alloc (Nat.le_refl _) o)
end
def Tr.words (t : Tr) : List Int := (t.x ++ t.p.take 3) ++ [t.p.getD 4 0, t.p.getD 5 0, t.p.getD 8 0]
def Es.w0 (e : Es) : List Int := [e.q0, e.q1, e.q2, e.q3]
def Es.wd (e : Es) : Nat → List Int
 | 0 => e.w0
 | 1 => e.w0 ++ e.t0.words
 | 2 => (e.w0 ++ e.t0.words) ++ e.t1.words
 | _ => ((e.w0 ++ e.t0.words) ++ e.t1.words) ++ e.t2.words
def Es.w7 (e : Es) : List Int := [e.steps, e.fJ, e.f0, e.f1, e.f2, e.f3, if e.sat then 1 else 0]
end Go.Proofs.Ytnijhjbcjeohhaa.EE

namespace Go.Proofs.Ytnijhjbcjeohhaa.EE
open Go.RowKit Go.Proofs.Ytnijhjbcjeohhaa.KK Go.Proofs.af.aA Go.Proofs.af.aN Go.Proofs.af.aP
set_option linter.unusedVariables false
set_option linter.unusedSimpArgs false
def PU : Cf := ⟨2097152, 16777216, 262144, 16777216, 16777216, 268435456⟩
def Gv : Sm := ⟨true, 0, 0, 0, 0, 0, 0, false, 0, false, 0, 0, 0⟩
def en0 : En := ⟨16777216, 0, 0, 0, [0, 0, 0], tY, [0, 0, 0], tY, [0, 0, 0], tY, 0, 0, 0, 0, 0, 0, false⟩
theorem wU : Gd en0 := by
 refine ⟨fun j hj => ?_, fun j hj => ?_, by decide, by decide, by decide, by decide, fun k hk => ?_, fun k hk => ?_⟩
 · obtain rfl | rfl | rfl : j = 0 ∨ j = 1 ∨ j = 2 := by omega
   all_goals rfl
 · obtain rfl | rfl | rfl : j = 0 ∨ j = 1 ∨ j = 2 := by omega
   all_goals exact PR.kW _
 · obtain rfl | rfl | rfl | rfl : k = 0 ∨ k = 1 ∨ k = 2 ∨ k = 3 := by omega
   all_goals decide
 · obtain rfl | rfl | rfl | rfl : k = 0 ∨ k = 1 ∨ k = 2 ∨ k = 3 := by omega
   all_goals decide
def OL : En := En.ahead PU en0 (a3 0 0 0)
theorem OJ : OL.x0 = [0, 0, 0] ∧ OL.x1 = [0, 0, 0] ∧ OL.x2 = [0, 0, 0] ∧ OL.sat = false := by decide +kernel
theorem GY : kX PU en0 Gv (OL.cnt true) :=
 C9 PU en0 Gv en0 OL (a3 0 0 0) wU (by decide) (by decide) (.inl ⟨rfl, rfl, rfl⟩) ⟨fun _ => rfl, fun h => by cases h⟩ wU.ahead
end Go.Proofs.Ytnijhjbcjeohhaa.EE

namespace Go.Proofs.Ytnijhjbcjeohhaa.OG
open Go Go.RowKit Go.Proofs.Ytnijhjbcjeohhaa.KK
section
variable {P : Program} {ops : Array Oper} {Q : Exit → Act → World → Prop}
def upd (l : Nat → Bool) (i : Nat) : Nat → Bool := fun k => if k = i then true else l k
def deps (o : Oper) (l : Nat → Bool) : Prop := ∀ e ∈ o.after.toList, Region.binds .any e = true → l e.on = true
def Closed (ops : Array Oper) (l : Nat → Bool) : Prop := ∀ j o, ops[j]? = some o → l j = true → deps o l
theorem Closed.off {l : Nat → Bool} (hc : Closed ops l) (j k : Nat) (h : ((ops[j]?).map fun o => o.after.toList.any (fun e => Region.binds .any e && decide (e.on = k))) = some true) (h0 : l k = false) : l j = false := by
 cases hj : l j with
 | false => rfl
 | true =>
   exfalso
   cases ho : ops[j]? with
   | none => rw [ho] at h; cases h
   | some o =>
     rw [ho] at h
     simp only [Option.map_some, Option.some.injEq, List.any_eq_true, Bool.and_eq_true, decide_eq_true_eq] at h
     obtain ⟨e, he, h2, rfl⟩ := h
     have := hc j o ho hj e he h2
     rw [h0] at this
     cases this
def Steps (P : Program) (ops : Array Oper) (Q : Exit → Act → World → Prop) (J : (Nat → Bool) → Act → World → Prop) : Nat → List Oper → Prop
 | _, [] => True
 | k, o :: r => (∀ l a w, J l a w → Closed ops l → l k = false → deps o l → (Region.wanted o (yielded ops a.tmps) = true ∧ o.wp P a w (fun a' w' => J (upd l k) a' w') Q) ∨ (Region.wanted o (yielded ops a.tmps) = false ∧ J (upd l k) (a.put o.dst undef) w)) ∧ Steps P ops Q J (k + 1) r
theorem deps.get {o : Oper} {l : Nat → Bool} (h : deps o l) (k : Nat) (hk : o.after.toList.any (fun e => Region.binds .any e && decide (e.on = k)) = true) : l k = true := by
 rw [List.any_eq_true] at hk
 obtain ⟨e, he, h2⟩ := hk
 simp only [Bool.and_eq_true, decide_eq_true_eq] at h2
 obtain ⟨h3, rfl⟩ := h2
 exact h e he h3
theorem Steps.nil {J : (Nat → Bool) → Act → World → Prop} {k : Nat} : Steps P ops Q J k [] := trivial
theorem Steps.cons {J : (Nat → Bool) → Act → World → Prop} {k : Nat} {o : Oper} {r : List Oper} (hg : o.guard = none)
 (h : ∀ l a w (K : Act → World → Prop), Hid (∀ a' w', J (upd l k) a' w' → K a' w') → J l a w → Closed ops l → l k = false → deps o l → o.wp P a w K Q) (hr : Steps P ops Q J (k + 1) r) : Steps P ops Q J k (o :: r) :=
 ⟨fun l a w hJ hc hl hd => .inl ⟨by simp [Region.wanted, hg], h l a w _ (Lib.hid fun _ _ h => h) hJ hc hl hd⟩, hr⟩
theorem Steps.get {J : (Nat → Bool) → Act → World → Prop} : ∀ {r : List Oper} {k : Nat}, Steps P ops Q J k r → ∀ i o, r[i]? = some o →
 ∀ l a w, J l a w → Closed ops l → l (k + i) = false → deps o l → (Region.wanted o (yielded ops a.tmps) = true ∧ o.wp P a w (fun a' w' => J (upd l (k + i)) a' w') Q) ∨ (Region.wanted o (yielded ops a.tmps) = false ∧ J (upd l (k + i)) (a.put o.dst undef) w)
 | [], _, _, i, o, h => by simp at h
 | x :: r, k, hs, 0, o, h => by
   simp at h; subst h; exact hs.1
 | x :: r, k, hs, i + 1, o, h => by
   have := hs.2.get i o (by simpa using h)
   rwa [show k + 1 + i = k + (i + 1) from by omega] at this
def back (ops : Array Oper) : Bool := (List.range ops.size).all fun i => ((ops[i]?).map fun o => o.after.toList.all fun e => !Region.binds .any e || decide (e.on < i)).getD true
theorem Kt {listed : Array Bool} (hb : back ops = true) (hsz : listed.size = ops.size) (hr : Region.ready .any ops listed = []) : ∀ n i, i < n → i < ops.size → listed.getD i false = true := by
 intro n
 induction n with
 | zero => intro i h; omega
 | succ n ih =>
   intro i hi ho
   cases hc : listed.getD i false with
   | true => rfl
   | false =>
     exfalso
     have hm : i ∈ Region.ready .any ops listed := by
      refine mem_ready.2 ⟨?_, ops[i], by simp [ho], fun e he hbi => ?_⟩
      · have hlt : i < listed.size := by omega
        simpa [hlt] using hc
      · unfold back at hb
        rw [List.all_eq_true] at hb
        have h1 := hb i (by simpa using ho)
        rw [show ops[i]? = some ops[i] from by simp [ho]] at h1
        simp only [Option.map_some, Option.getD_some, List.all_eq_true, Bool.or_eq_true, Bool.not_eq_true', decide_eq_true_eq] at h1
        have h2 := (h1 e (by simpa using he)).resolve_left (by simp [hbi])
        exact ih e.on (by omega) (by omega)
     rw [hr] at hm
     cases hm
theorem count_set : ∀ (l : List Bool) (i : Nat), l[i]? = some false → (l.set i true).count false + 1 = l.count false
 | [], i, h => by simp at h
 | b :: l, 0, h => by simp at h; subst h; simp
 | b :: l, i + 1, h => by
   have := count_set l i (by simpa using h)
   cases b <;> simp <;> omega
theorem Rt (J : (Nat → Bool) → Act → World → Prop) (hb : back ops = true) (hs : Steps P ops Q J 0 ops.toList)
 (he : ∀ l a w, J l a w → (∀ i, i < ops.size → l i = true) → Q .normal a w) :
 ∀ (fuel : Nat) (listed : Array Bool) (a : Act) (w : World), listed.size = ops.size → listed.toList.count false ≤ fuel → Closed ops (fun k => listed.getD k false) → J (fun k => listed.getD k false) a w → wpAny P .any ops Q fuel listed a w := by
 intro fuel
 induction fuel with
 | zero =>
   intro listed a w hsz hc hcl hJ
   have hall : ∀ i, i < ops.size → listed.getD i false = true := by
    intro i hi
    cases hx : listed.getD i false with
    | true => rfl
    | false =>
      exfalso
      have hlt : i < listed.size := by omega
      have hm : false ∈ listed.toList := by
       have : listed[i] = false := by simpa [hlt] using hx
       rw [← this]; simp
      have := List.count_pos_iff.2 hm
      omega
   refine ⟨?_, he _ _ _ hJ hall⟩
   cases hr : Region.ready .any ops listed with
   | nil => rfl
   | cons i t =>
     have hm : i ∈ Region.ready .any ops listed := by rw [hr]; simp
     obtain ⟨h0, o, ho, _⟩ := mem_ready.1 hm
     have hlt := (Array.getElem?_eq_some_iff.1 ho).1
     have := hall i hlt
     have hlt' : i < listed.size := by omega
     simp [hlt'] at h0 this
     rw [h0] at this; cases this
 | succ fuel ih =>
   intro listed a w hsz hc hcl hJ
   refine ⟨fun hr => he _ _ _ hJ fun i hi => Kt hb hsz hr (i + 1) i (by omega) hi, fun i hi => ?_⟩
   obtain ⟨h0, o, ho, hd⟩ := mem_ready.1 hi
   have hlt := (Array.getElem?_eq_some_iff.1 ho).1
   have hlt' : i < listed.size := by omega
   have h0' : listed.getD i false = false := by simpa [hlt'] using h0
   have hst := hs.get i o (by simpa using ho) (fun k => listed.getD k false) a w hJ hcl (by simpa using h0') (fun e he hbi => hd e (by simpa using he) hbi)
   have hup : upd (fun k => listed.getD k false) (0 + i) = fun k => (listed.setIfInBounds i true).getD k false := by
    funext k
    unfold upd
    simp only [Nat.zero_add]
    split
    · rename_i h; subst h; simp [hlt']
    · rename_i h; simp [Array.getD_eq_getD_getElem?, Array.getElem?_setIfInBounds_ne (Ne.symm h)]
   have hnext : ∀ a' w', J (upd (fun k => listed.getD k false) (0 + i)) a' w' → wpAny P .any ops Q fuel (listed.setIfInBounds i true) a' w' := by
    intro a' w' h
    rw [hup] at h
    refine ih _ _ _ (by simpa using hsz) ?_ ?_ h
    rotate_left
    · rw [← hup]
      intro j o' ho' hj e he hbi
      by_cases hji : j = 0 + i
      · have : o' = o := by
         rw [hji, Nat.zero_add, ho] at ho'
         injection ho' with ho'
         exact ho'.symm
        subst this
        unfold upd
        split
        · rfl
        · exact hd e (by simpa using he) hbi
      · have hj' : listed.getD j false = true := by
         unfold upd at hj
         rwa [if_neg hji] at hj
        unfold upd
        split
        · rfl
        · exact hcl j o' ho' hj' e he hbi
    have : listed.toList[i]? = some false := by
     have : listed[i] = false := by simpa [hlt'] using h0'
     simp [hlt', this]
    have := count_set _ _ this
    simp
    omega
   unfold wpOp
   simp only [ho]
   rcases hst with ⟨hw, h⟩ | ⟨hw, h⟩
   · simp only [hw, if_true]
     exact .inl (Oper.wp_mono hnext h)
   · simp only [hw, Bool.false_eq_true, if_false]
     exact hnext _ _ h
theorem fF {id : Nat} {a : Act} {w : World} (hm : P.follows .mixedOrders = true) (J : (Nat → Bool) → Act → World → Prop) (hb : back ops = true)
 (h0 : J (fun _ => false) a w.drew) (hs : Steps P ops Q J 0 ops.toList) (he : ∀ l a w, J l a w → (∀ i, i < ops.size → l i = true) → Q .normal a w) : (Code.region id ops true).wp P Q a w := by
 refine wp_region_any hm ?_
 refine Rt J hb hs he _ _ _ _ (by simp) ?_ ?_ ?_
 · rw [Array.toList_replicate, List.count_replicate]; simp
 · intro j o _ hj
   exfalso
   have : (Array.replicate ops.size false).getD j false = false := by simp [Array.getD_eq_getD_getElem?, Array.getElem?_replicate]; split <;> rfl
   simp only [this] at hj
   cases hj
 · rw [show (fun k => (Array.replicate ops.size false).getD k false) = fun _ => false from by funext k; simp [Array.getD_eq_getD_getElem?, Array.getElem?_replicate]; split <;> rfl]
   exact h0
end
theorem gV {P : Program} {ops : Array Oper} {rest : List Oper} {op : Oper} {a : Act} {w : World} {Q : Exit → Act → World → Prop} (hw : Region.wanted op (yielded ops a.tmps) = true) (ty : TypeId) (x : Operand) (ho : op.op = .load ty x)
 (b o : Nat) (hx : a.eval x = .pointer (some ⟨b, o, none⟩)) (cs : List Value) (d : TypeDesc) (hc : w.rangeAt b o cs) (hu : P.underlying ty = some d) (hd : d.isRow = true) (hi : (P.info? ty).map (·.size) = some cs.length)
 (h : wpList P ops Q rest (a.put op.dst (.agg cs.toArray)) w) : wpList P ops Q (op :: rest) a w :=
 wpList_step fun K hK => by rw [if_pos hw]; exact wp_load_mid ty x ho b o hx cs d hc hu hd hi (hK _ _ h)
theorem dA {g : Nat} : ∀ (vs : List Value) (o : Nat) (w : World) (k : Nat), k ≠ g → (w.setCells g o vs).heap[k]? = w.heap[k]?
 | [], _, _, _, _ => rfl
 | v :: r, o, w, k, hk => by
   rw [World.setCells, dA r (o + 1) _ k hk]
   exact Below.heap_setCell w ⟨g, o, none⟩ v k hk
end Go.Proofs.Ytnijhjbcjeohhaa.OG

namespace Go.Proofs.Ytnijhjbcjeohhaa.EE
open Go.RowKit Go.Proofs.Ytnijhjbcjeohhaa.KK Go.Proofs.Ytnijhjbcjeohhaa.OG Go.Proofs.af.aA Go.Proofs.af.aN Go.Proofs.af.aP
set_option linter.unusedVariables false
set_option linter.unusedSimpArgs false
def PY (t : Tr) (b : Nat) : Prop := (∀ ad, t.A = some ad → ad.block ≠ b) ∧ (∀ ad, t.B = some ad → ad.block ≠ b)
theorem Ro.VW {n b : Nat} {w : World} {t : Tr} (h : Ro n w t) (hb : b < n) : PY t b := ⟨fun ad e => by have := h.na ad e; omega, fun ad e => by have := h.nb ad e; omega⟩
theorem Rw.VW {w : World} {t : Tr} (h : Rw w t) (hx : 0 < t.x.length) (hp : 0 < t.p.length) {b : Nat} (hb : w.heap.size ≤ b) : PY t b :=
 ⟨fun ad e => by have := PR.Rd.blk h.x ad e hx; omega, fun ad e => by have := PR.Rd.blk h.p ad e hp; omega⟩
theorem Rw.cells {w : World} {t : Tr} (h : Rw w t) {b o : Nat} (ha : PY t b) (vs : List Value) : Rw (w.setCells b o vs) t :=
 ⟨Rd.gr h.x (iH vs o w) ha.1, h.xc, Rd.gr h.p (iH vs o w) ha.2, h.pd⟩
def Got (on o7 o8 : Bool) (N : En) (e : Es) (b7 b8 : Nat) (w : World) : Prop := on = true → e.nu = N ∧ ∀ j, j < 3 → Rw w (e.ax j) ∧ (o7 = true → PY (e.ax j) b7) ∧ (o8 = true → PY (e.ax j) b8)
section
variable {on o7 o8 : Bool} {N : En} {e : Es} {b7 b8 : Nat} {w w' : World}
theorem Got.mk (he : e.nu = N) (hr : ∀ j, j < 3 → Ro w.heap.size w' (e.ax j)) (h7 : o7 = true → b7 < w.heap.size) (h8 : o8 = true → b8 < w.heap.size) : Got on o7 o8 N e b7 b8 w' :=
 fun _ => ⟨he, fun j hj => ⟨(hr j hj).rw, fun k => (hr j hj).VW (h7 k), fun k => (hr j hj).VW (h8 k)⟩⟩
end
end Go.Proofs.Ytnijhjbcjeohhaa.EE

namespace Go.Proofs.Ytnijhjbcjeohhaa.EE
open Go.RowKit Go.Proofs.Ytnijhjbcjeohhaa.KK Go.Proofs.af.aA Go.Proofs.af.aN Go.Proofs.af.aP
set_option linter.unusedVariables false
set_option linter.unusedSimpArgs false
def ER (t : Nat → Tr) : Es := ⟨16777216, 0, 0, 0, t 0, t 1, t 2, 0, 0, 0, 0, 0, 0, false⟩
theorem UY (t : Nat → Tr) (h : ∀ j, j < 3 → (t j).x = [0, 0, 0] ∧ (t j).p = tY) : pJ t 3 = (ER t).R := by
 have l9 : tY.length = 9 := PR.kW _
 simp [pJ, ER, Es.R, Es.row, h 0 (by decide), h 1 (by decide), h 2 (by decide), l9]
theorem Qs (t : Nat → Tr) (h : ∀ j, j < 3 → (t j).x = [0, 0, 0] ∧ (t j).p = tY) : (ER t).nu = en0 := by
 simp [ER, Es.nu, en0, h 0 (by decide), h 1 (by decide), h 2 (by decide)]
theorem VI : Gd (OL.cnt true) := wU.ahead.cnt true
end Go.Proofs.Ytnijhjbcjeohhaa.EE

namespace Go.Proofs.Ytnijhjbcjeohhaa.EE
open Go.RowKit Go.Proofs.Ytnijhjbcjeohhaa.KK Go.Proofs.af.aA Go.Proofs.af.aN Go.Proofs.af.aP
set_option linter.unusedVariables false
set_option linter.unusedSimpArgs false
structure Tg where
 r : Int
 c : Int
 A : Option Addr
 cx : Nat
 x : List Int
 r' : Int
 c' : Int
 B : Option Addr
 cp : Nat
 p : List Int
structure Eg where
 q0 : Int
 q1 : Int
 q2 : Int
 q3 : Int
 t0 : Tg
 t1 : Tg
 t2 : Tg
 steps : Int
 fJ : Int
 f0 : Int
 f1 : Int
 f2 : Int
 f3 : Int
 sat : Bool
abbrev Eg.row (e : Eg) : Array Value :=
 #[I e.q0, I e.q1, I e.q2, I e.q3,
   I e.t0.r, I e.t0.c, .slice e.t0.A e.t0.x.length e.t0.cx, I e.t0.r', I e.t0.c', .slice e.t0.B e.t0.p.length e.t0.cp,
   I e.t1.r, I e.t1.c, .slice e.t1.A e.t1.x.length e.t1.cx, I e.t1.r', I e.t1.c', .slice e.t1.B e.t1.p.length e.t1.cp,
   I e.t2.r, I e.t2.c, .slice e.t2.A e.t2.x.length e.t2.cx, I e.t2.r', I e.t2.c', .slice e.t2.B e.t2.p.length e.t2.cp,
   I e.steps, I e.fJ, I e.f0, I e.f1, I e.f2, I e.f3, .bool e.sat]
def Eg.R (e : Eg) : Array Value := e.row
def Eg.t (e : Eg) : Nat → Tg
 | 0 => e.t0
 | 1 => e.t1
 | _ => e.t2
def Tg.ok (t : Tg) : Bool := decide (PR.wC t.r t.c t.x t.r' t.c' t.p) && decide (t.r = 3)
def Eg.n0 (e : Eg) : Bool := ((decide (e.steps < 0) || decide (e.steps > 1099511627776)) || decide (e.fJ < 0)) || decide (e.fJ > 1000)
def Eg.o4 (e : Eg) : Bool := !Rq e.f0 && (!Rq e.f1 && (!Rq e.f2 && !Rq e.f3))
def Eg.t3 (e : Eg) : Bool := e.t0.ok && (e.t1.ok && e.t2.ok)
def Eg.ok (e : Eg) : Bool := !e.n0 && (e.o4 && (e.t3 && PQ.wI (PQ.at4 e.q0 e.q1 e.q2 e.q3) 4))
theorem UN (l : List Int) (i k : Nat) (hi : i < l.length) (hl : l.length ≤ 1000) : PQ.aY.l0 (k + 1) l i = if mO (l.getD i 0) = true then some false else PQ.aY.l0 k l ((i + 1 : Nat) : Int) := by
 have h1 : (i : Int) < (l.length : Int) := by omega
 have h2 : wrap64 ((i : Int) + 1) = ((i + 1 : Nat) : Int) := by unfold wrap64; omega
 rw [PQ.aY.l0, if_pos h1, if_pos (by omega), h2]
 have e : rd l (i : Int) = l.getD i 0 := by simp [rd]
 rw [e]
 unfold mO
 generalize l.getD i 0 = q
 by_cases a : q < 1
 · rw [if_pos a, if_pos (by simp; omega)]
 · rw [if_neg a]
   by_cases b : q > 17179869184
   · rw [if_pos b, if_pos (by simp; omega)]
   · rw [if_neg b, if_neg (by simp; omega)]
theorem XP (c : Cf) : PQ.aY.f 7 c.dt c.acc c.bias c.dJ c.dY c.gate = some c.may := by
 unfold PQ.aY.f
 have s : ∀ (i k : Nat), i < 6 → PQ.aY.l0 (k + 1) [c.dt, c.acc, c.bias, c.dJ, c.dY, c.gate] i = if mO ([c.dt, c.acc, c.bias, c.dJ, c.dY, c.gate].getD i 0) = true then some false else PQ.aY.l0 k [c.dt, c.acc, c.bias, c.dJ, c.dY, c.gate] ((i + 1 : Nat) : Int) := fun i k hi => UN _ i k (by simpa using hi) (by simp)
 have e6 : PQ.aY.l0 (0 + 1) [c.dt, c.acc, c.bias, c.dJ, c.dY, c.gate] ((6 : Nat) : Int) = some true := by rw [PQ.aY.l0, if_neg (by simp)]
 have h := s 0 6 (by omega)
 rw [s 1 5 (by omega), s 2 4 (by omega), s 3 3 (by omega), s 4 2 (by omega), s 5 1 (by omega), e6] at h
 refine h.trans ?_
 simp only [Cf.may, Cf.l, List.any_cons, List.any_nil, List.getD_cons_zero, List.getD_cons_succ]
 generalize mO c.dt = a, mO c.acc = b, mO c.bias = d, mO c.dJ = e, mO c.dY = f, mO c.gate = g
 revert a b d e f g
 decide
theorem uX (c : Cf) (w : World) : Calls Try.prog 14 #[.agg c.row] w fun x w' => x = .returned (.bool c.may) ∧ Below w.heap.size w w' :=
 PQ.aY.calls 7 c.dt c.acc c.bias c.dJ c.dY c.gate _ w (XP c)
end Go.Proofs.Ytnijhjbcjeohhaa.EE

namespace Go.Proofs.Ytnijhjbcjeohhaa.EE
open Go.RowKit Go.Proofs.Ytnijhjbcjeohhaa.KK Go.Proofs.af.aA Go.Proofs.af.aN Go.Proofs.af.aP
set_option linter.unusedVariables false
set_option linter.unusedSimpArgs false
theorem BQ.counts {miss : Bool} {dt : Int} {n : En} {g0 g1 g2 a0 a1 a2 : Int} {n1 : En} {y : Nat → Int} (h : BQ miss dt n g0 g1 g2 a0 a1 a2 n1 y) : n1.steps = n.steps ∧ n1.fJ = n.fJ ∧ ∀ k, n1.off k = n.off k := by
 rcases h with ⟨_, rfl, _⟩ | ⟨_, _, _, _, _, _, _, _, _, _, _, _, _, _, _, _, _, _, _, _, _, _, _, _, _, rfl, _⟩
 · exact ⟨rfl, rfl, fun _ => rfl⟩
 · exact ⟨rfl, rfl, fun _ => rfl⟩
theorem nC (c : Cf) (n : En) (y : Nat → Int) : (En.ahead c n y).steps = n.steps ∧ (En.ahead c n y).fJ = n.fJ ∧ ∀ k, (En.ahead c n y).off k = n.off k := ⟨rfl, rfl, fun _ => rfl⟩
def Cnt (has : Bool) (a b : Int) : Prop := (has = false → b = a) ∧ (has = true → b = 0 ∨ b = min (a + 1) 1000)
theorem Fe (tk : Bool) (n : Int) : jd tk n = 0 ∨ jd tk n = min (n + 1) 1000 := by
 cases tk
 · exact .inr rfl
 · exact .inl rfl
theorem uz.counts {n n' : En} {i k : Nat} {z r gate : Int} (hk : k < 4) (h : uz n i k z r gate n') : n'.steps = n.steps ∧ n'.fJ = n.fJ ∧ (∀ j, j < 4 → j ≠ k → n'.off j = n.off j) ∧ Cnt true (n.off k) (n'.off k) := by
 obtain ⟨X, P, tk, fl, _, rfl⟩ := h
 refine ⟨?_, ?_, fun j hj hne => ?_, (fun e => by cases e), fun _ => ?_⟩
 · unfold En.held; rfl
 · unfold En.held; rfl
 · rw [vJ n i k j hj hk, if_neg (Ne.symm hne)]
 · rw [vJ n i k k hk hk, if_pos rfl]
   exact Fe tk _
def Sm.has (s : Sm) : Nat → Bool
 | 0 => s.hasB
 | _ => s.pK
theorem zN.counts {c : Cf} {n : En} {s : Sm} {n' : En} (h : zN c n s n') : n'.steps = n.steps ∧ n'.fJ = n.fJ ∧ (s.missing = true → ∀ k, n'.off k = n.off k) ∧ (s.missing = false → ∀ k, k < 4 → Cnt (s.has k) (n.off k) (n'.off k)) := by
 cases hm : s.missing
 case true =>
  obtain rfl := h.miss hm
  exact ⟨rfl, rfl, fun _ _ => rfl, fun e => by cases e⟩
 obtain ⟨m1, gk, h1, h2, h3, h4, h5, h6⟩ := h.go hm
 have B : m1.steps = n.steps ∧ m1.fJ = n.fJ ∧ (∀ j, j < 4 → j ≠ 0 → m1.off j = n.off j) ∧ Cnt s.hasB (n.off 0) (m1.off 0) := by
  cases hb : s.hasB
  · obtain rfl := h2 hb
    exact ⟨rfl, rfl, fun _ _ _ => rfl, fun _ => rfl, fun e => by cases e⟩
  · exact (h1 hb).counts (by decide)
 cases hg : s.pK
 · have e1 := h6 hg 0 (by decide)
   have e2 := h6 hg 1 (by decide)
   have e3 := h6 hg 2 (by decide)
   have : n' = m1 := by rw [← h4, ← h3, e3, e2, e1]
   subst this
   refine ⟨B.1, B.2.1, (fun e => by cases e), fun _ k hk => ?_⟩
   match k, hk with
   | 0, _ => exact B.2.2.2
   | k + 1, hk =>
     rw [B.2.2.1 (k + 1) hk (by omega)]
     show Cnt s.pK _ _
     rw [hg]
     exact ⟨fun _ => rfl, fun e => by cases e⟩
 · have c1 := (h5 hg 0 (by decide)).counts (by decide)
   have c2 := (h5 hg 1 (by decide)).counts (by decide)
   have c3 := (h5 hg 2 (by decide)).counts (by decide)
   simp only [Nat.zero_add, Nat.reduceAdd] at c1 c2 c3
   rw [h3] at c1
   rw [h4] at c3
   refine ⟨c3.1.trans (c2.1.trans (c1.1.trans B.1)), c3.2.1.trans (c2.2.1.trans (c1.2.1.trans B.2.1)), (fun e => by cases e), fun _ k hk => ?_⟩
   obtain rfl | rfl | rfl | rfl : k = 0 ∨ k = 1 ∨ k = 2 ∨ k = 3 := by omega
   · rw [c3.2.2.1 0 (by decide) (by decide), c2.2.2.1 0 (by decide) (by decide), c1.2.2.1 0 (by decide) (by decide)]
     exact B.2.2.2
   · rw [c3.2.2.1 1 (by decide) (by decide), c2.2.2.1 1 (by decide) (by decide)]
     show Cnt s.pK _ _
     rw [hg, ← B.2.2.1 1 (by decide) (by decide)]
     exact c1.2.2.2
   · rw [c3.2.2.1 2 (by decide) (by decide)]
     show Cnt s.pK _ _
     rw [hg, ← B.2.2.1 2 (by decide) (by decide), ← c1.2.2.1 2 (by decide) (by decide)]
     exact c2.2.2.2
   · show Cnt s.pK _ _
     rw [hg, ← B.2.2.1 3 (by decide) (by decide), ← c1.2.2.1 3 (by decide) (by decide), ← c2.2.2.1 3 (by decide) (by decide)]
     exact c3.2.2.2
theorem Eh (c : Cf) (n : En) (s : Sm) (G : Gd n) (hb : 0 < c.dJ) (hn : 0 < c.dY) : ∃ n', kX c n s n' ∧ Gd n' ∧ n'.steps = min (n.steps + 1) 1099511627776 ∧ n'.fJ = (if s.missing = true then min (n.fJ + 1) 1000 else 0) ∧
 (s.missing = true → ∀ k, n'.off k = n.off k) ∧ (s.missing = false → ∀ k, k < 4 → Cnt (s.has k) (n.off k) (n'.off k)) := by
 obtain ⟨n1, y, T⟩ := yG s.missing c.dt n s.g0 s.g1 s.g2 s.a0 s.a1 s.a2
 obtain ⟨n3, H, G3⟩ := y8 c s (T.gd G).ahead (n := En.ahead c n1 y)
 have t := T.counts
 have h := H.counts
 refine ⟨n3.cnt s.missing, C9 c n s n1 n3 y G hb hn T H G3, G3.cnt _, ?_, ?_, fun m k => ?_, fun m k hk => ?_⟩
 · show min (n3.steps + 1) _ = _
   rw [h.1, (nC c n1 y).1, t.1]
 · show (if s.missing = true then min (n3.fJ + 1) 1000 else 0) = _
   rw [h.2.1, (nC c n1 y).2.1, t.2.1]
 · have := h.2.2.1 m k
   rw [(nC c n1 y).2.2, t.2.2] at this
   exact this
 · have := h.2.2.2 m k hk
   rw [(nC c n1 y).2.2, t.2.2] at this
   exact this
end Go.Proofs.Ytnijhjbcjeohhaa.EE

namespace Go.Proofs.Ytnijhjbcjeohhaa.EE
open Go.RowKit Go.Proofs.Ytnijhjbcjeohhaa.KK Go.Proofs.af.aA Go.Proofs.af.aN Go.Proofs.af.aP
set_option linter.unusedVariables false
set_option linter.unusedSimpArgs false
theorem P8 (w : World) (z y D E : Array Value) (t u : TypeId) (hD : D.size = z.size) (hE : E.size = y.size) :
 Row ((((w.alloc (.cells z t)).alloc (.cells y u)).setCells w.heap.size 0 D.toList).setCells (w.heap.size + 1) 0 E.toList) w.heap.size t D ∧
 Row ((((w.alloc (.cells z t)).alloc (.cells y u)).setCells w.heap.size 0 D.toList).setCells (w.heap.size + 1) 0 E.toList) (w.heap.size + 1) u E ∧
 Below w.heap.size w ((((w.alloc (.cells z t)).alloc (.cells y u)).setCells w.heap.size 0 D.toList).setCells (w.heap.size + 1) 0 E.toList) := by
 have r1 := (Row.new w t z).alloc (.cells y u)
 have r2 := Row.new (w.alloc (.cells z t)) u y
 rw [World.size_alloc] at r2
 have s1 := Row.full r1 D hD
 have s2 : Row (((w.alloc (.cells z t)).alloc (.cells y u)).setCells w.heap.size 0 D.toList) (w.heap.size + 1) u y := (OG.dA _ _ _ _ (by omega)).trans r2
 refine ⟨(OG.dA _ _ _ _ (by omega)).trans s1, Row.full s2 E hE, ?_⟩
 exact KK.dF _ _ _ (KK.dF _ _ _ (((Below.refl _ _).alloc (Nat.le_refl _) _).alloc (by simp) _) (Nat.le_refl _)) (by omega)
theorem JX (w : World) (z y D E : Array Value) (t u : TypeId) (hD : D.size = z.size) (hE : E.size = y.size) :
 ((w.alloc (.cells z t)).alloc (.cells y u)).there w.heap.size 0 D.size ∧ (((w.alloc (.cells z t)).alloc (.cells y u)).setCells w.heap.size 0 D.toList).there (w.heap.size + 1) 0 E.size := by
 have r1 := Row.there ((Row.new w t z).alloc (.cells y u))
 have r2 := Row.new (w.alloc (.cells z t)) u y
 rw [World.size_alloc] at r2
 have r3 : Row (((w.alloc (.cells z t)).alloc (.cells y u)).setCells w.heap.size 0 D.toList) (w.heap.size + 1) u y := (OG.dA _ _ _ _ (by omega)).trans r2
 rw [hD, hE]
 exact ⟨r1, Row.there r3⟩
theorem oU (w : World) (z D : Array Value) (t : TypeId) (hD : D.size = z.size) :
 Row ((w.alloc (.cells z t)).setCells w.heap.size 0 D.toList) w.heap.size t D ∧ Below w.heap.size w ((w.alloc (.cells z t)).setCells w.heap.size 0 D.toList) :=
 ⟨Row.full (Row.new w t z) D hD, KK.dF _ _ _ ((Below.refl _ _).alloc (Nat.le_refl _) _) (Nat.le_refl _)⟩
theorem Jh {c : Cf} (h : c.may = true) : 0 < c.dJ ∧ 0 < c.dY ∧ 0 < c.dt := by
 have h2 : ∀ q ∈ c.l, mO q = false := by
  simp only [Cf.may, Bool.not_eq_true', List.any_eq_false] at h
  intro q hq
  simpa using h q hq
 have p : ∀ q, mO q = false → 0 < q := fun q hq => by
  unfold mO at hq
  simp at hq
  omega
 exact ⟨p _ (h2 _ (by simp [Cf.l])), p _ (h2 _ (by simp [Cf.l])), p _ (h2 _ (by simp [Cf.l]))⟩
theorem Es.eg (s : Es) : ∃ e : Eg, e.R = s.R := ⟨⟨s.q0, s.q1, s.q2, s.q3, ⟨3, 1, s.t0.A, s.t0.c, s.t0.x, 3, 3, s.t0.B, s.t0.d, s.t0.p⟩, ⟨3, 1, s.t1.A, s.t1.c, s.t1.x, 3, 3, s.t1.B, s.t1.d, s.t1.p⟩, ⟨3, 1, s.t2.A, s.t2.c, s.t2.x, 3, 3, s.t2.B, s.t2.d, s.t2.p⟩, s.steps, s.fJ, s.f0, s.f1, s.f2, s.f3, s.sat⟩, rfl⟩
end Go.Proofs.Ytnijhjbcjeohhaa.EE

namespace Go.Proofs.Ytnijhjbcjeohhaa.EE
open Go.RowKit Go.Proofs.Ytnijhjbcjeohhaa.KK Go.Proofs.af.aA Go.Proofs.af.aN Go.Proofs.af.aP
set_option linter.unusedVariables false
set_option linter.unusedSimpArgs false
def Tg.same (a b : Tg) : Bool := decide ((a.r = b.r ∧ a.c = b.c ∧ a.x = b.x) ∧ (a.r' = b.r' ∧ a.c' = b.c' ∧ a.p = b.p))
def Eg.qs (a b : Eg) : Bool := (a.q0 == b.q0) && ((a.q1 == b.q1) && ((a.q2 == b.q2) && ((a.q3 == b.q3) && true)))
def Eg.os (a b : Eg) : Bool := (a.f0 == b.f0) && ((a.f1 == b.f1) && ((a.f2 == b.f2) && ((a.f3 == b.f3) && true)))
def Eg.ts (a b : Eg) : Bool := a.t0.same b.t0 && (a.t1.same b.t1 && a.t2.same b.t2)
def Eg.same (a b : Eg) : Bool := a.ts b && (a.qs b && ((a.steps == b.steps) && ((a.fJ == b.fJ) && (a.os b && (a.sat == b.sat)))))
end Go.Proofs.Ytnijhjbcjeohhaa.EE

namespace Go.Proofs.Ytnijhjbcjeohhaa.EE
open Go.ChangeShapes Go.WideShapes Go.ChangeAt Go.RowKit Go.Deep Go.Proofs.Ytnijhjbcjeohhaa.KK Go.Proofs.af.aA
set_option linter.unusedVariables false
set_option linter.unusedSimpArgs false
theorem z22 : Try.prog.cellsOf 22 = 1 := by kernel_rfl
theorem z24 : Try.prog.cellsOf 24 = 6 := by kernel_rfl
theorem z3 : Try.prog.cellsOf 3 = 1 := by kernel_rfl
theorem z4 : Try.prog.cellsOf 4 = 1 := by kernel_rfl
theorem z42 : Try.prog.cellsOf 42 = 3 := by kernel_rfl
theorem z46 : Try.prog.cellsOf 46 = 13 := by kernel_rfl
theorem XT {α : Type} {l : List α} (h : l.length = 6) : ∃ c0 c1 c2 c3 c4 c5, l = [c0, c1, c2, c3, c4, c5] := by
 match l, h with
 | [c0, c1, c2, c3, c4, c5], _ => exact ⟨c0, c1, c2, c3, c4, c5, rfl⟩
theorem Tz {α : Type} {l : List α} (h : l.length = 4) : ∃ c0 c1 c2 c3, l = [c0, c1, c2, c3] := by
 match l, h with
 | [c0, c1, c2, c3], _ => exact ⟨c0, c1, c2, c3, rfl⟩
theorem UQ {α : Type} {l : List α} (h : l.length = 13) : ∃ c0 c1 c2 c3 c4 c5 c6 c7 c8 c9 c10 c11 c12, l = [c0, c1, c2, c3, c4, c5, c6, c7, c8, c9, c10, c11, c12] := by
 match l, h with
 | [c0, c1, c2, c3, c4, c5, c6, c7, c8, c9, c10, c11, c12], _ => exact ⟨c0, c1, c2, c3, c4, c5, c6, c7, c8, c9, c10, c11, c12, rfl⟩
theorem XV {α : Type} {l : List α} (h : l.length = 3) : ∃ c0 c1 c2, l = [c0, c1, c2] := by
 match l, h with
 | [c0, c1, c2], _ => exact ⟨c0, c1, c2, rfl⟩
section
variable {H : Type} {enc : TypeId × Value → H} {W : World} {base : Nat} {sp : Nat → Bool} {held : Bool} {fuel : Nat} {cs : List Value} {x : DataW H × List MemPlace}
theorem Bg (h : DataW.trod enc Try.prog W base sp held fuel 24 cs = some x) : ∃ c : Cf, cs = c.row.toList := by
 obtain ⟨xs, n, _, _, hl, hlen, hf⟩ := DataW.trod_struct Try.underlying24 h
 rw [z24] at hl
 obtain ⟨c0, c1, c2, c3, c4, c5, rfl⟩ := XT hl
 have hl2 : xs.length = 6 := hlen
 have get : ∀ i (h : i < 6), xs[i]? = some (xs[i]'(by omega)) := fun i h => List.getElem?_eq_getElem (by omega)
 obtain ⟨v0, e0, _, _⟩ := DataW.trod_int Try.underlying22 ((uK hf 0 22 0 1 rfl z22).trans (get 0 (by omega)))
 obtain ⟨v1, e1, _, _⟩ := DataW.trod_int Try.underlying22 ((uK hf 1 22 1 1 rfl z22).trans (get 1 (by omega)))
 obtain ⟨v2, e2, _, _⟩ := DataW.trod_int Try.underlying22 ((uK hf 2 22 2 1 rfl z22).trans (get 2 (by omega)))
 obtain ⟨v3, e3, _, _⟩ := DataW.trod_int Try.underlying22 ((uK hf 3 22 3 1 rfl z22).trans (get 3 (by omega)))
 obtain ⟨v4, e4, _, _⟩ := DataW.trod_int Try.underlying22 ((uK hf 4 22 4 1 rfl z22).trans (get 4 (by omega)))
 obtain ⟨v5, e5, _, _⟩ := DataW.trod_int Try.underlying22 ((uK hf 5 22 5 1 rfl z22).trans (get 5 (by omega)))
 simp at e0 e1 e2 e3 e4 e5
 subst e0 e1 e2 e3 e4 e5
 exact ⟨⟨v0, v1, v2, v3, v4, v5⟩, rfl⟩
theorem open_ints {n : Nat} {t e : TypeId} (ht : Try.prog.underlying t = some (.array n e)) (he : Try.prog.underlying e = some (.int .i64)) (hc : Try.prog.cellsOf e = 1) (hn : Try.prog.cellsOf t = n) (h : DataW.trod enc Try.prog W base sp held fuel t cs = some x) :
 cs.length = n ∧ ∀ i, i < n → ∃ q : Int, cs[i]? = some (I q) := by
 obtain ⟨xs, m, _, _, hl, hlen, hf⟩ := DataW.trod_array ht h
 rw [hn] at hl
 refine ⟨hl, fun i hi => ?_⟩
 have h1 := (hf i hi).trans (List.getElem?_eq_getElem (by omega))
 rw [hc, Nat.mul_one] at h1
 obtain ⟨q, e1, _, _⟩ := DataW.trod_int he h1
 refine ⟨q, ?_⟩
 have h2 : (List.take 1 (List.drop i cs))[0]? = some (I q) := by rw [e1]; rfl
 simpa using h2
theorem rJ (h : DataW.trod enc Try.prog W base sp held fuel 42 cs = some x) : ∃ a b c : Int, cs = [I a, I b, I c] := by
 obtain ⟨hl, hk⟩ := open_ints Try.underlying42 Try.underlying22 z22 z42 h
 obtain ⟨c0, c1, c2, rfl⟩ := XV hl
 obtain ⟨a, ha⟩ := hk 0 (by decide)
 obtain ⟨b, hb⟩ := hk 1 (by decide)
 obtain ⟨c, hc⟩ := hk 2 (by decide)
 simp at ha hb hc
 subst ha hb hc
 exact ⟨a, b, c, rfl⟩
theorem EF (h : DataW.trod enc Try.prog W base sp held fuel 46 cs = some x) : ∃ s : Sm, cs = s.row.toList := by
 obtain ⟨xs, n, _, _, hl, hlen, hf⟩ := DataW.trod_struct Try.underlying46 h
 rw [z46] at hl
 obtain ⟨c0, c1, c2, c3, c4, c5, c6, c7, c8, c9, c10, c11, c12, rfl⟩ := UQ hl
 have hl2 : xs.length = 7 := hlen
 have get : ∀ i (h : i < 7), xs[i]? = some (xs[i]'(by omega)) := fun i h => List.getElem?_eq_getElem (by omega)
 obtain ⟨b0, e0, _⟩ := DataW.trod_bool Try.underlying4 ((uK hf 0 4 0 1 rfl z4).trans (get 0 (by omega)))
 obtain ⟨g0, g1, g2, e1⟩ := rJ ((uK hf 1 42 1 3 rfl z42).trans (get 1 (by omega)))
 obtain ⟨a0, a1, a2, e2⟩ := rJ ((uK hf 2 42 4 3 rfl z42).trans (get 2 (by omega)))
 obtain ⟨b1, e3, _⟩ := DataW.trod_bool Try.underlying4 ((uK hf 3 4 7 1 rfl z4).trans (get 3 (by omega)))
 obtain ⟨q, e4, _, _⟩ := DataW.trod_int Try.underlying22 ((uK hf 4 22 8 1 rfl z22).trans (get 4 (by omega)))
 obtain ⟨b2, e5, _⟩ := DataW.trod_bool Try.underlying4 ((uK hf 5 4 9 1 rfl z4).trans (get 5 (by omega)))
 obtain ⟨n0, n1, n2, e6⟩ := rJ ((uK hf 6 42 10 3 rfl z42).trans (get 6 (by omega)))
 simp at e0 e1 e2 e3 e4 e5 e6
 obtain ⟨rfl, rfl, rfl⟩ := e1
 obtain ⟨rfl, rfl, rfl⟩ := e2
 obtain ⟨rfl, rfl, rfl⟩ := e6
 subst e0 e3 e4 e5
 exact ⟨⟨b0, g0, g1, g2, a0, a1, a2, b1, q, b2, n0, n1, n2⟩, rfl⟩
end
end Go.Proofs.Ytnijhjbcjeohhaa.EE

namespace Go.Proofs.Ytnijhjbcjeohhaa.EE
open Go.RowKit Go.Proofs.Ytnijhjbcjeohhaa.KK
set_option linter.unusedVariables false
set_option linter.unusedSimpArgs false
theorem VQ (a : Int) : PQ.lC (PQ.cl a) := ⟨PQ.qP a, PQ.qQ a⟩
theorem DT (a b : Int) : PQ.lC (gQ a b).1 := VQ _
theorem upto_all {c : Nat} {q : Nat → Nat → Int} {i : Nat} {p : Int → Prop} (h : ∀ i k, p (q i k)) : ∀ v ∈ upto c q i, p v := fun v hv => by
 simp only [upto, List.mem_flatMap, List.mem_map] at hv
 obtain ⟨i, _, k, _, rfl⟩ := hv
 exact h i k
theorem Q_ (c1 c2 : Nat) (l m : List Int) (i k : Nat) : ∀ j, PQ.lC (AL c1 c2 l m i k j).1
 | 0 => show PQ.lC 0 from ⟨by decide, by decide⟩
 | j + 1 => DT _ _
def PX (n : En) : Prop := ∀ j, j < 3 → ∀ v ∈ n.x j, PQ.lC v
theorem Qc {l : List Int} {p : Int → Prop} (h : ∀ v ∈ l, p v) (k : Nat) {u : Int} (hu : p u) : ∀ v ∈ l.set k u, p v := fun v hv => (List.mem_or_eq_of_mem_set hv).elim (h v) (fun e => e ▸ hu)
theorem Pj (c : Cf) (n : En) (y : Nat → Int) : PX (En.ahead c n y) := fun j hj => by
 obtain rfl | rfl | rfl : j = 0 ∨ j = 1 ∨ j = 2 := by omega
 all_goals exact Qc (upto_all fun i k => Q_ _ _ _ _ i k _) 1 (DT _ _)
theorem uz.W_ {n n' : En} {i k : Nat} {z r gate : Int} (h : uz n i k z r gate n') (hi : i < 3) (hx : PX n) : PX n' := by
 obtain ⟨X, P, tk, fl, H, rfl⟩ := h
 intro j hj
 rw [NV n i k j hj hi]
 split
 · have hU := H.1
   unfold PR.Rz at hU
   split at hU
   · obtain ⟨rfl, _⟩ := hU
     exact hx i hi
   · obtain ⟨rfl, _⟩ := hU
     exact upto_all fun i k => DT _ _
 · exact hx j hj
theorem zN.W_ {c : Cf} {n : En} {s : Sm} {n' : En} (h : zN c n s n') (hx : PX n) : PX n' := by
 cases hm : s.missing
 case true =>
  obtain rfl := h.miss hm
  exact hx
 obtain ⟨m1, gk, h1, h2, h3, h4, h5, h6⟩ := h.go hm
 have B : PX m1 := by
  cases hb : s.hasB
  · obtain rfl := h2 hb
    exact hx
  · exact (h1 hb).W_ (by decide) hx
 cases hg : s.pK
 · have e1 := h6 hg 0 (by decide)
   have e2 := h6 hg 1 (by decide)
   have e3 := h6 hg 2 (by decide)
   have : n' = m1 := by rw [← h4, ← h3, e3, e2, e1]
   subst this
   exact B
 · have c1 := (h5 hg 0 (by decide)).W_ (by decide) (by rw [h3]; exact B)
   have c2 := (h5 hg 1 (by decide)).W_ (by decide) c1
   have c3 := (h5 hg 2 (by decide)).W_ (by decide) c2
   rw [h4] at c3
   exact c3
theorem M_ (c : Cf) (n : En) (s : Sm) (G : Gd n) (hb : 0 < c.dJ) (hn : 0 < c.dY) : ∃ n', kX c n s n' ∧ Gd n' ∧ PX n' := by
 obtain ⟨n1, y, T⟩ := yG s.missing c.dt n s.g0 s.g1 s.g2 s.a0 s.a1 s.a2
 obtain ⟨n3, H, G3⟩ := y8 c s (T.gd G).ahead (n := En.ahead c n1 y)
 exact ⟨n3.cnt s.missing, C9 c n s n1 n3 y G hb hn T H G3, G3.cnt _, H.W_ (Pj c n1 y)⟩
end Go.Proofs.Ytnijhjbcjeohhaa.EE

