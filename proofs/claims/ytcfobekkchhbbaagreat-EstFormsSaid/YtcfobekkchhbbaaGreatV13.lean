import Derived.Test.YtcfobekkchhbbaaGreatV12
import Derived.Deep.RegionHeld3
import Derived.Test.YtcfobekkchhbbaaGreatV11
import Derived.Test.YtcfobekkchhbbaaGreatV10
import Derived.Maps.AppendAt
import Derived.OrdersHeld
import Derived.Test.YtcfobekkchhbbaaGreatV6
import Derived.WalkKit
import Derived.Below
import Derived.Deep.MidRow
import Derived.Lib.Hide
/- Joined and thinned by a program of this session's own (wip/pack2.py) out of its texts (wip/ of its repo); parts were laid by its own program (wip/print-patch.py over the kit's print) out of the translation; Lean checks all. -/
set_option maxRecDepth 100000
set_option maxHeartbeats 4000000
namespace Go.Proofs.YtcfobekkchhbbaaGreat.EE
open Go.RowKit Go.Proofs.YtcfobekkchhbbaaGreat.KK Go.Proofs.af.aU Go.Proofs.af.a_ Go.Proofs.af.bf
set_option linter.unusedVariables false
set_option linter.unusedSimpArgs false
theorem wp_build {P : Program} {op : Oper} {a : Act} {w : World} {K : Act → World → Prop} {Q : Exit → Act → World → Prop} (t : TypeId) (parts : Array (Nat × Operand)) (ho : op.op = .build t parts) (ps : Array (Nat × Value)) (hp : (parts.map fun (i, x) => (i, a.eval x)) = ps) (v : Value)
 (hr : (Instr.build t ps).run P w = .ok v w) (h : K (a.put op.dst v) w) : op.wp P a w K Q := by
 unfold Oper.wp execOp
 simp only [ho, hp, Sem.run_bind, Sem.run_pure, Result.andThen_ok, hr]; exact h
theorem wpList_build {P : Program} {ops : Array Oper} {rest : List Oper} {op : Oper} {a : Act} {w : World} {Q : Exit → Act → World → Prop} (hgd : op.guard = none) (t : TypeId) (parts : Array (Nat × Operand)) (ho : op.op = .build t parts) (ps : Array (Nat × Value)) (hp : (parts.map fun (i, x) => (i, a.eval x)) = ps) (v : Value)
 (hr : (Instr.build t ps).run P w = .ok v w) (h : wpList P ops Q rest (a.put op.dst v) w) : wpList P ops Q (op :: rest) a w :=
 wpList_plain hgd fun _ hK => wp_build t parts ho ps hp v hr (hK _ _ h)
theorem Below.Jg {w w1 w2 : World} {g : Nat} (h : Below w.heap.size w w1) (hg : w1.grownBy w2 (some g)) (hn : w.heap.size ≤ g) : Below w.heap.size w w2 :=
 ⟨hg.os.trans h.os, hg.tape.trans h.tape, hg.output.trans h.output, Nat.le_trans h.size hg.size, fun k hk => (hg.block k (Nat.lt_of_lt_of_le hk h.size) (fun e => by injection e with e; omega)).trans (h.block k hk)⟩
def Cf.R (c : Cf) : Array Value := c.row
def Es.R (e : Es) : Array Value := e.row
def Sm.R (s : Sm) : Array Value := s.row
def Es.xU (e' : Es) : Array Value := ([I 3, I 1, .slice e'.t0.A e'.t0.x.length e'.t0.c, I 3, I 3, .slice e'.t0.B e'.t0.p.length e'.t0.d, I 3, I 1, .slice e'.t1.A e'.t1.x.length e'.t1.c, I 3, I 3, .slice e'.t1.B e'.t1.p.length e'.t1.d, I 3, I 1, .slice e'.t2.A e'.t2.x.length e'.t2.c, I 3, I 3, .slice e'.t2.B e'.t2.p.length e'.t2.d] : List Value).toArray
theorem AA {w : World} {A : Option Addr} {l : List Int} (h : Rd w A l) (hl : l.length = 3) : ∃ b o, A = some ⟨b, o, none⟩ ∧ b < w.heap.size ∧ w.cell? ⟨b, o, none⟩ = some (I (l.getD 0 0)) := by
 obtain ⟨b, o, rfl, hb, hc⟩ := Rd.cells h (by omega); refine ⟨b, o, rfl, hb, ?_⟩
 have := hc 0 (l.getD 0 0) (by
  match l, hl with
  | [_, _, _], _ => rfl)
 simpa using this
theorem Row.there {w : World} {b : Nat} {t : TypeId} {C : Array Value} (h : Row w b t C) : w.there b 0 C.size := fun j hj => by
 refine ⟨?_, h.free _⟩
 rw [h.cell]
 simp [hj]
theorem Dv {P : Program} {fn : Func} {p p' : Tmp} {ty ty' : TypeId} (h : fn.results = #[.cell p ty, .cell p' ty']) (tmps : Array Value) (w : World) (g g' : Nat) (cs cs' : List Value) (d d' : TypeDesc)
 (hp : tmps.getD p undef = .pointer (some ⟨g, 0, none⟩)) (hg : w.rangeAt g 0 cs) (hu : P.underlying ty = some d) (hd : d.isRow = true) (hi : (P.info? ty).map (·.size) = some cs.length)
 (hp' : tmps.getD p' undef = .pointer (some ⟨g', 0, none⟩)) (hg' : w.rangeAt g' 0 cs') (hu' : P.underlying ty' = some d') (hd' : d'.isRow = true) (hi' : (P.info? ty').map (·.size) = some cs'.length) :
 (results fn tmps).run P w = .ok (.tuple #[.agg cs.toArray, .agg cs'.toArray]) w := by
 have h1 : tmps[p]?.getD undef = .pointer (some ⟨g, 0, none⟩) := by simpa using hp
 have h2 : tmps[p']?.getD undef = .pointer (some ⟨g', 0, none⟩) := by simpa using hp'
 simp [results, h, h1, h2, asAddr, run_loadVar_mid w g 0 ty cs d hg hu hd hi, run_loadVar_mid w g' 0 ty' cs' d' hg' hu' hd' hi']
theorem row_one (e' : Es) : ∀ v ∈ e'.R.toList, v.oneCell' = true := List.all_eq_true.mp (by kernel_rfl : e'.R.toList.all (·.oneCell') = true)
theorem jg {B : Nat} : ∀ (vs : List Value) (o : Nat) (w : World), w.grownBy (w.setCells B o vs) (some B) := by
 intro vs
 induction vs with
 | nil => intro o w; exact gG _ _
 | cons v vs ih => intro o w; exact dU (dJ (gG _ _) _ _) (ih (o + 1) _)
theorem Rg.cells {o' : Prop} {g : Nat} {w : World} {A : Option Addr} {l : List Int} (h : Rg o' g w A l) {B o : Nat} {vs : List Value} (hB : B + 2 = g ∨ B + 1 = g) : Rg o' g (w.setCells B o vs) A l := ⟨Rd.gr h.rd (jg vs o w) (fun ad e => by rcases h.nr ad e with ⟨_, h⟩ | h <;> omega), h.nr⟩
theorem Rx.cells {o' : Prop} {g : Nat} {w : World} {t : Tr} (h : Rx o' g w t) {B o : Nat} {vs : List Value} (hB : B + 2 = g ∨ B + 1 = g) : Rx o' g (w.setCells B o vs) t := ⟨h.x.cells hB, h.xc, h.p.cells hB, h.pd⟩
theorem _root_.Go.Proofs.YtcfobekkchhbbaaGreat.KK.bD.set {w0 w : World} {L : List (TypeId × Array Value)} (h : bD w0 L w) {p : Addr} (hp : w0.heap.size + L.length ≤ p.block) (u : Value) : bD w0 L (w.setCell p u) :=
 ⟨h.rows.imp fun k t cs _ hk r => r.far (by omega) u, h.be.setCell (by omega) u⟩
def Xw (c : Cf) (e : Es) (s : Sm) (a0 a1 a2 : Int) : Array Value := wk c e s a0 a1 a2
theorem Yo (c : Cf) (e' : Es) (s : Sm) (a0 a1 a2 : Int) : ((wk c e' s a0 a1 a2).extract 10 (10 + e'.xU.toList.length)).toList = e'.xU.toList := by kernel_rfl
theorem Yn (c : Cf) (e' : Es) (s : Sm) (a0 a1 a2 : Int) : ((wk c e' s a0 a1 a2).extract 6 (6 + e'.R.toList.length)).toList = e'.R.toList := by kernel_rfl
theorem abZ (e' : Es) (b o : Nat) (hA : (e'.ax 0).A = some ⟨b, o, none⟩) (hl : (e'.ax 0).x.length = 3) : ∀ w', (Instr.index 32 (.agg e'.xU) (.int .i64 0)).run Tryz.prog w' = .ok (.agg #[I 3, I 1, .slice (some ⟨b, o, none⟩) 3 e'.t0.c, I 3, I 3, .slice e'.t0.B e'.t0.p.length e'.t0.d]) w' := fun w' => by
 have h : (Instr.index 32 (.agg e'.xU) (.int .i64 0)).run Tryz.prog w' = .ok (.agg #[I 3, I 1, .slice e'.t0.A e'.t0.x.length e'.t0.c, I 3, I 3, .slice e'.t0.B e'.t0.p.length e'.t0.d]) w' := by kernel_rfl
 rw [h]; change e'.t0.A = _ at hA; change e'.t0.x.length = 3 at hl; rw [hA, hl]
theorem abY (e' : Es) (b o : Nat) (hA : (e'.ax 1).A = some ⟨b, o, none⟩) (hl : (e'.ax 1).x.length = 3) : ∀ w', (Instr.index 32 (.agg e'.xU) (.int .i64 1)).run Tryz.prog w' = .ok (.agg #[I 3, I 1, .slice (some ⟨b, o, none⟩) 3 e'.t1.c, I 3, I 3, .slice e'.t1.B e'.t1.p.length e'.t1.d]) w' := fun w' => by
 have h : (Instr.index 32 (.agg e'.xU) (.int .i64 1)).run Tryz.prog w' = .ok (.agg #[I 3, I 1, .slice e'.t1.A e'.t1.x.length e'.t1.c, I 3, I 3, .slice e'.t1.B e'.t1.p.length e'.t1.d]) w' := by kernel_rfl
 rw [h]; change e'.t1.A = _ at hA; change e'.t1.x.length = 3 at hl; rw [hA, hl]
theorem abX (e' : Es) (b o : Nat) (hA : (e'.ax 2).A = some ⟨b, o, none⟩) (hl : (e'.ax 2).x.length = 3) : ∀ w', (Instr.index 32 (.agg e'.xU) (.int .i64 2)).run Tryz.prog w' = .ok (.agg #[I 3, I 1, .slice (some ⟨b, o, none⟩) 3 e'.t2.c, I 3, I 3, .slice e'.t2.B e'.t2.p.length e'.t2.d]) w' := fun w' => by
 have h : (Instr.index 32 (.agg e'.xU) (.int .i64 2)).run Tryz.prog w' = .ok (.agg #[I 3, I 1, .slice e'.t2.A e'.t2.x.length e'.t2.c, I 3, I 3, .slice e'.t2.B e'.t2.p.length e'.t2.d]) w' := by kernel_rfl
 rw [h]; change e'.t2.A = _ at hA; change e'.t2.x.length = 3 at hl; rw [hA, hl]
theorem Qw (c : Cf) (e : Es) (s : Sm) (w : World) (Q : Nat → World → Prop) (E : Es → Prop) (g : Nat) (hg : g = w.heap.size + 5)
 (h0 : ∀ w', Row w' g 111 (wk c e s 0 0 0) → Below w.heap.size w w' → Q 0 w')
 (h1 : ∀ w', Q 0 w' → Calls Tryz.prog 47 #[.pointer (some ⟨g, 0, none⟩)] w' fun x w'' => x = .returned (.tuple #[]) ∧ Q 1 w'' ∧ w'.grownBy w'' (some g))
 (h2 : ∀ w', Q 1 w' → Calls Tryz.prog 48 #[.pointer (some ⟨g, 0, none⟩)] w' fun x w'' => x = .returned (.tuple #[]) ∧ Q 2 w'' ∧ w'.grownBy w'' (some g))
 (h3 : ∀ w', Q 2 w' → Calls Tryz.prog 49 #[.pointer (some ⟨g, 0, none⟩)] w' fun x w'' => x = .returned (.tuple #[]) ∧ Q 3 w'' ∧ w'.grownBy w'' (some g))
 (h4 : ∀ w', Q 3 w' → Calls Tryz.prog 50 #[.pointer (some ⟨g, 0, none⟩)] w' fun x w'' => x = .returned (.tuple #[]) ∧ Q 4 w'' ∧ w'.grownBy w'' (some g))
 (h5 : ∀ w', Q 4 w' → ∃ (e' : Es) (a0 a1 a2 : Int), E e' ∧ Row w' g 111 (wk c e' s a0 a1 a2) ∧ Ok False g w' e' ∧ ∀ j, j < 3 → (e'.ax j).x.length = 3) :
 Calls Tryz.prog 22 #[.agg c.R, .agg e.R, .agg s.R] w fun x w' => ∃ e' : Es, E e' ∧ x = .returned (.tuple #[.agg e'.row, .agg #[I (e'.t0.x.getD 0 0), I (e'.t1.x.getD 0 0), I (e'.t2.x.getD 0 0)]]) ∧ (∀ j, j < 3 → Rx False g w' (e'.ax j)) ∧ Below w.heap.size w w' := by
 have H0 := Lib.hid h0; have H1 := Lib.hid h1; have H2 := Lib.hid h2; have H3 := Lib.hid h3; have H4 := Lib.hid h4; have H5 := Lib.hid h5; have HG := Lib.hid hg; clear h0 h1 h2 h3 h4 h5 hg
 go_enter Tryz.func22, Tryz.ntmps22
 go_upto_region 1 with fail
 have L : Hid (bD w [(24, c.R), (35, e.R), (55, s.R), (35, #[.int .i64 0, .int .i64 0, .int .i64 0, .int .i64 0, .int .i64 0, .int .i64 0, .slice none 0 0, .int .i64 0, .int .i64 0, .slice none 0 0, .int .i64 0, .int .i64 0, .slice none 0 0, .int .i64 0, .int .i64 0, .slice none 0 0, .int .i64 0, .int .i64 0, .slice none 0 0, .int .i64 0, .int .i64 0, .slice none 0 0, .int .i64 0, .int .i64 0, .int .i64 0, .int .i64 0, .int .i64 0, .int .i64 0, .bool false]), (53, #[.int .i64 0, .int .i64 0, .int .i64 0])] (((((w.alloc (.cells c.R 24)).alloc (.cells e.R 35)).alloc (.cells s.R 55)).alloc (.cells #[.int .i64 0, .int .i64 0, .int .i64 0, .int .i64 0, .int .i64 0, .int .i64 0, .slice none 0 0, .int .i64 0, .int .i64 0, .slice none 0 0, .int .i64 0, .int .i64 0, .slice none 0 0, .int .i64 0, .int .i64 0, .slice none 0 0, .int .i64 0, .int .i64 0, .slice none 0 0, .int .i64 0, .int .i64 0, .slice none 0 0, .int .i64 0, .int .i64 0, .int .i64 0, .int .i64 0, .int .i64 0, .int .i64 0, .bool false] 35)).alloc (.cells #[.int .i64 0, .int .i64 0, .int .i64 0] 53))) := Lib.hid ((((((bD.none w).push (by simp) _ _).push (by simp) _ _).push (by simp) _ _).push (by simp) _ _).push (by simp) _ _); have LZ : Hid ((((((w.alloc (.cells c.R 24)).alloc (.cells e.R 35)).alloc (.cells s.R 55)).alloc (.cells #[.int .i64 0, .int .i64 0, .int .i64 0, .int .i64 0, .int .i64 0, .int .i64 0, .slice none 0 0, .int .i64 0, .int .i64 0, .slice none 0 0, .int .i64 0, .int .i64 0, .slice none 0 0, .int .i64 0, .int .i64 0, .slice none 0 0, .int .i64 0, .int .i64 0, .slice none 0 0, .int .i64 0, .int .i64 0, .slice none 0 0, .int .i64 0, .int .i64 0, .int .i64 0, .int .i64 0, .int .i64 0, .int .i64 0, .bool false] 35)).alloc (.cells #[.int .i64 0, .int .i64 0, .int .i64 0] 53)).heap.size = w.heap.size + 1 + 1 + 1 + 1 + 1) := Lib.hid (by simp); generalize (((((w.alloc (.cells c.R 24)).alloc (.cells e.R 35)).alloc (.cells s.R 55)).alloc (.cells #[.int .i64 0, .int .i64 0, .int .i64 0, .int .i64 0, .int .i64 0, .int .i64 0, .slice none 0 0, .int .i64 0, .int .i64 0, .slice none 0 0, .int .i64 0, .int .i64 0, .slice none 0 0, .int .i64 0, .int .i64 0, .slice none 0 0, .int .i64 0, .int .i64 0, .slice none 0 0, .int .i64 0, .int .i64 0, .slice none 0 0, .int .i64 0, .int .i64 0, .int .i64 0, .int .i64 0, .int .i64 0, .int .i64 0, .bool false] 35)).alloc (.cells #[.int .i64 0, .int .i64 0, .int .i64 0] 53)) = w5 at L LZ ⊢; have R0 : Hid (w5.rangeAt w.heap.size 0 c.R.toList) := Lib.hid (Row.range L.out.r0 0 _ (by simp [Cf.R])); have R1 : Hid (w5.rangeAt (w.heap.size + 1) 0 e.R.toList) := Lib.hid (Row.range L.out.r1 0 _ (by simp [Es.R])); have R2 : Hid (w5.rangeAt (w.heap.size + 1 + 1) 0 s.R.toList) := Lib.hid (Row.range L.out.r2 0 _ (by simp [Sm.R])); have i24 := Lib.hid (show (Tryz.prog.info? 24).map (·.size) = some c.R.toList.length by kernel_rfl); have i37 := Lib.hid (show (Tryz.prog.info? 35).map (·.size) = some e.R.toList.length by kernel_rfl); have i46 := Lib.hid (show (Tryz.prog.info? 55).map (·.size) = some s.R.toList.length by kernel_rfl); have Yf : Hid (∀ w', (Instr.build 111 #[(0, .agg c.R), (1, .agg e.R), (2, .agg s.R)]).run Tryz.prog w' = .ok (.agg (Xw c e s 0 0 0)) w') := Lib.hid (fun w' => by kernel_rfl)
 go_wp2_with (first
  | (with_reducible refine wpList_build rfl 111 #[(0, .tmp 14), (1, .tmp 15), (2, .tmp 16)] rfl #[(0, .agg c.R), (1, .agg e.R), (2, .agg s.R)] (by kernel_rfl) _ (Yf.out _) ?_)
  | (with_reducible refine wpList_load_mid rfl 24 (.tmp 3) rfl w.heap.size 0 rfl c.R.toList _ R0.out Tryz.underlying24 rfl i24.out ?_)
  | (with_reducible refine wpList_load_mid rfl 35 (.tmp 4) rfl (w.heap.size + 1) 0 rfl e.R.toList _ R1.out Tryz.underlying35 rfl i37.out ?_)
  | (with_reducible refine wpList_load_mid rfl 55 (.tmp 5) rfl (w.heap.size + 1 + 1) 0 rfl s.R.toList _ R2.out Tryz.underlying55 rfl i46.out ?_))
 have hg : g = w5.heap.size := HG.out.trans LZ.out.symm; have R6 : Hid (Row (w5.alloc (.cells (Xw c e s 0 0 0) 111)) g 111 (wk c e s 0 0 0)) := Lib.hid (by rw [hg]; exact Row.new w5 111 (Xw c e s 0 0 0)); have TE : Hid (Row (w5.alloc (.cells (Xw c e s 0 0 0) 111)) (w.heap.size + 1 + 1 + 1) 35 #[.int .i64 0, .int .i64 0, .int .i64 0, .int .i64 0, .int .i64 0, .int .i64 0, .slice none 0 0, .int .i64 0, .int .i64 0, .slice none 0 0, .int .i64 0, .int .i64 0, .slice none 0 0, .int .i64 0, .int .i64 0, .slice none 0 0, .int .i64 0, .int .i64 0, .slice none 0 0, .int .i64 0, .int .i64 0, .slice none 0 0, .int .i64 0, .int .i64 0, .int .i64 0, .int .i64 0, .int .i64 0, .int .i64 0, .bool false]) := Lib.hid (L.out.r3.alloc _); have TV : Hid (Row (w5.alloc (.cells (Xw c e s 0 0 0) 111)) (w.heap.size + 1 + 1 + 1 + 1) 53 #[.int .i64 0, .int .i64 0, .int .i64 0]) := Lib.hid (L.out.r4.alloc _); have BE : Hid (Below w.heap.size w (w5.alloc (.cells (Xw c e s 0 0 0) 111))) := Lib.hid (L.out.be.alloc L.out.be.size _); have Z6 : Hid ((w5.alloc (.cells (Xw c e s 0 0 0) 111)).heap.size = g + 1) := Lib.hid (by rw [hg]; simp); have NG : Hid (w.heap.size + 1 + 1 + 1 ≠ g ∧ w.heap.size + 1 + 1 + 1 + 1 ≠ g ∧ g + 1 ≠ g ∧ w.heap.size ≤ g) := Lib.hid (by have := HG.out; omega); rw [← hg]; have GG : Hid (w.heap.size + 1 + 1 + 1 + 2 = g ∧ w.heap.size + 1 + 1 + 1 + 1 + 1 = g) := Lib.hid (by have := HG.out; omega); clear L LZ R0 R1 R2 i24 i37 i46 Yf hg HG; generalize w5.alloc (.cells (Xw c e s 0 0 0) 111) = w6 at R6 TE TV BE Z6 ⊢; have Q0 := Lib.hid (H0.out _ (R6.out.alloc (.cells #[.func (.func 47) #[.pointer (some ⟨g, 0, none⟩)] #[], .func (.func 48) #[.pointer (some ⟨g, 0, none⟩)] #[], .func (.func 49) #[.pointer (some ⟨g, 0, none⟩)] #[], .func (.func 50) #[.pointer (some ⟨g, 0, none⟩)] #[]] 1)) (BE.out.alloc BE.out.size (.cells #[.func (.func 47) #[.pointer (some ⟨g, 0, none⟩)] #[], .func (.func 48) #[.pointer (some ⟨g, 0, none⟩)] #[], .func (.func 49) #[.pointer (some ⟨g, 0, none⟩)] #[], .func (.func 50) #[.pointer (some ⟨g, 0, none⟩)] #[]] 1)))
 have S0 : Hid (Row (w6.alloc (.cells #[.func (.func 47) #[.pointer (some ⟨g, 0, none⟩)] #[], .func (.func 48) #[.pointer (some ⟨g, 0, none⟩)] #[], .func (.func 49) #[.pointer (some ⟨g, 0, none⟩)] #[], .func (.func 50) #[.pointer (some ⟨g, 0, none⟩)] #[]] 1)) (w.heap.size + 1 + 1 + 1) 35 #[.int .i64 0, .int .i64 0, .int .i64 0, .int .i64 0, .int .i64 0, .int .i64 0, .slice none 0 0, .int .i64 0, .int .i64 0, .slice none 0 0, .int .i64 0, .int .i64 0, .slice none 0 0, .int .i64 0, .int .i64 0, .slice none 0 0, .int .i64 0, .int .i64 0, .slice none 0 0, .int .i64 0, .int .i64 0, .slice none 0 0, .int .i64 0, .int .i64 0, .int .i64 0, .int .i64 0, .int .i64 0, .int .i64 0, .bool false] ∧ Row (w6.alloc (.cells #[.func (.func 47) #[.pointer (some ⟨g, 0, none⟩)] #[], .func (.func 48) #[.pointer (some ⟨g, 0, none⟩)] #[], .func (.func 49) #[.pointer (some ⟨g, 0, none⟩)] #[], .func (.func 50) #[.pointer (some ⟨g, 0, none⟩)] #[]] 1)) (w.heap.size + 1 + 1 + 1 + 1) 53 #[.int .i64 0, .int .i64 0, .int .i64 0] ∧ Row (w6.alloc (.cells #[.func (.func 47) #[.pointer (some ⟨g, 0, none⟩)] #[], .func (.func 48) #[.pointer (some ⟨g, 0, none⟩)] #[], .func (.func 49) #[.pointer (some ⟨g, 0, none⟩)] #[], .func (.func 50) #[.pointer (some ⟨g, 0, none⟩)] #[]] 1)) (g + 1) 1 #[.func (.func 47) #[.pointer (some ⟨g, 0, none⟩)] #[], .func (.func 48) #[.pointer (some ⟨g, 0, none⟩)] #[], .func (.func 49) #[.pointer (some ⟨g, 0, none⟩)] #[], .func (.func 50) #[.pointer (some ⟨g, 0, none⟩)] #[]] ∧ Below w.heap.size w (w6.alloc (.cells #[.func (.func 47) #[.pointer (some ⟨g, 0, none⟩)] #[], .func (.func 48) #[.pointer (some ⟨g, 0, none⟩)] #[], .func (.func 49) #[.pointer (some ⟨g, 0, none⟩)] #[], .func (.func 50) #[.pointer (some ⟨g, 0, none⟩)] #[]] 1))) :=
  Lib.hid ⟨TE.out.alloc _, TV.out.alloc _, by rw [← Z6.out]; exact Row.new _ _ _, BE.out.alloc BE.out.size _⟩
 clear R6 TE TV BE Z6 H0; generalize w6.alloc (.cells #[.func (.func 47) #[.pointer (some ⟨g, 0, none⟩)] #[], .func (.func 48) #[.pointer (some ⟨g, 0, none⟩)] #[], .func (.func 49) #[.pointer (some ⟨g, 0, none⟩)] #[], .func (.func 50) #[.pointer (some ⟨g, 0, none⟩)] #[]] 1) = w7 at Q0 S0 ⊢
 go_loopw [29] (fun i wr => ∃ k : Nat, k ≤ 4 ∧ i = .int .i64 k ∧ Hid (Q k wr) ∧ Hid (Row wr (w.heap.size + 1 + 1 + 1) 35 #[.int .i64 0, .int .i64 0, .int .i64 0, .int .i64 0, .int .i64 0, .int .i64 0, .slice none 0 0, .int .i64 0, .int .i64 0, .slice none 0 0, .int .i64 0, .int .i64 0, .slice none 0 0, .int .i64 0, .int .i64 0, .slice none 0 0, .int .i64 0, .int .i64 0, .slice none 0 0, .int .i64 0, .int .i64 0, .slice none 0 0, .int .i64 0, .int .i64 0, .int .i64 0, .int .i64 0, .int .i64 0, .int .i64 0, .bool false] ∧ Row wr (w.heap.size + 1 + 1 + 1 + 1) 53 #[.int .i64 0, .int .i64 0, .int .i64 0] ∧ Row wr (g + 1) 1 #[.func (.func 47) #[.pointer (some ⟨g, 0, none⟩)] #[], .func (.func 48) #[.pointer (some ⟨g, 0, none⟩)] #[], .func (.func 49) #[.pointer (some ⟨g, 0, none⟩)] #[], .func (.func 50) #[.pointer (some ⟨g, 0, none⟩)] #[]] ∧ Below w.heap.size w wr)) (fun i _ => 4 - (intOf i).toNat)
 case atStart => exact ⟨0, by omega, rfl, Q0, S0⟩
 case round =>
  clear Q0 S0; obtain ⟨k, hk, rfl, QK, SK⟩ := hrel; have fc := SK.out.2.2.1.cell
  obtain rfl | rfl | rfl | rfl | rfl : k = 4 ∨ k = 0 ∨ k = 1 ∨ k = 2 ∨ k = 3 := by omega
  rotate_left
  · go_wp2_with fail
    refine (H1.out _ QK.out).mono ?_
    rintro x wn ⟨rfl, hq, hgr⟩; have Q1 := Lib.hid hq; have S1 := Lib.hid (And.intro ((PR.Row.gr SK.out.1) hgr NG.out.1) (And.intro ((PR.Row.gr SK.out.2.1) hgr NG.out.2.1) (And.intro ((PR.Row.gr SK.out.2.2.1) hgr NG.out.2.2.1) (Below.Jg SK.out.2.2.2 hgr NG.out.2.2.2)))); clear hq hgr fc QK SK; go_wp2
    go_roundw
    case rel => exact ⟨0 + 1, by omega, by go_num, Q1, S1⟩
    case measure => simp [intOf]
  · go_wp2_with fail
    refine (H2.out _ QK.out).mono ?_
    rintro x wn ⟨rfl, hq, hgr⟩; have Q1 := Lib.hid hq; have S1 := Lib.hid (And.intro ((PR.Row.gr SK.out.1) hgr NG.out.1) (And.intro ((PR.Row.gr SK.out.2.1) hgr NG.out.2.1) (And.intro ((PR.Row.gr SK.out.2.2.1) hgr NG.out.2.2.1) (Below.Jg SK.out.2.2.2 hgr NG.out.2.2.2)))); clear hq hgr fc QK SK; go_wp2
    go_roundw
    case rel => exact ⟨1 + 1, by omega, by go_num, Q1, S1⟩
    case measure => simp [intOf]
  · go_wp2_with fail
    refine (H3.out _ QK.out).mono ?_
    rintro x wn ⟨rfl, hq, hgr⟩; have Q1 := Lib.hid hq; have S1 := Lib.hid (And.intro ((PR.Row.gr SK.out.1) hgr NG.out.1) (And.intro ((PR.Row.gr SK.out.2.1) hgr NG.out.2.1) (And.intro ((PR.Row.gr SK.out.2.2.1) hgr NG.out.2.2.1) (Below.Jg SK.out.2.2.2 hgr NG.out.2.2.2)))); clear hq hgr fc QK SK; go_wp2
    go_roundw
    case rel => exact ⟨2 + 1, by omega, by go_num, Q1, S1⟩
    case measure => simp [intOf]
  · go_wp2_with fail
    refine (H4.out _ QK.out).mono ?_
    rintro x wn ⟨rfl, hq, hgr⟩; have Q1 := Lib.hid hq; have S1 := Lib.hid (And.intro ((PR.Row.gr SK.out.1) hgr NG.out.1) (And.intro ((PR.Row.gr SK.out.2.1) hgr NG.out.2.1) (And.intro ((PR.Row.gr SK.out.2.2.1) hgr NG.out.2.2.1) (Below.Jg SK.out.2.2.2 hgr NG.out.2.2.2)))); clear hq hgr fc QK SK; go_wp2
    go_roundw
    case rel => exact ⟨3 + 1, by omega, by go_num, Q1, S1⟩
    case measure => simp [intOf]
  clear fc
  obtain ⟨wq, hwq⟩ : ∃ wq, wq = wr := ⟨_, rfl⟩
  subst hwq; obtain ⟨e', a0, a1, a2, EE0, RW, OK, LX⟩ := H5.out _ QK.out; have RA := Lib.hid (Row.range RW 10 e'.xU.toList (Yo c e' s a0 a1 a2)); have RE := Lib.hid (Row.range RW 6 e'.R.toList (Yn c e' s a0 a1 a2)); have RWH := Lib.hid RW; have EH := Lib.hid EE0; clear EE0; have OKH := Lib.hid OK; have ZM := Lib.hid LX; clear RW OK LX H1 H2 H3 H4 H5; obtain ⟨b0, o0, hA0, hb0, hc0⟩ := AA (OKH.out 0 (by decide)).x.rd (ZM.out 0 (by decide)); obtain ⟨b1, o1, hA1, hb1, hc1⟩ := AA (OKH.out 1 (by decide)).x.rd (ZM.out 1 (by decide)); obtain ⟨b2, o2, hA2, hb2, hc2⟩ := AA (OKH.out 2 (by decide)).x.rd (ZM.out 2 (by decide)); have IX0 := Lib.hid (abZ e' b0 o0 hA0 (ZM.out 0 (by decide))); have IX1 := Lib.hid (abY e' b1 o1 hA1 (ZM.out 1 (by decide))); have IX2 := Lib.hid (abX e' b2 o2 hA2 (ZM.out 2 (by decide))); have HB0 := Lib.hid hb0; have HB1 := Lib.hid hb1; have HB2 := Lib.hid hb2
  obtain ⟨z0, hz0⟩ : ∃ z, z = e'.t0.x.getD 0 0 := ⟨_, rfl⟩
  obtain ⟨z1, hz1⟩ : ∃ z, z = e'.t1.x.getD 0 0 := ⟨_, rfl⟩
  obtain ⟨z2, hz2⟩ : ∃ z, z = e'.t2.x.getD 0 0 := ⟨_, rfl⟩
  have HC0 : Hid (wq.cell? ⟨b0, o0, none⟩ = some (I z0)) := Lib.hid (hc0.trans (congrArg (fun z => some (I z)) hz0.symm)); have HC1 : Hid (wq.cell? ⟨b1, o1, none⟩ = some (I z1)) := Lib.hid (hc1.trans (congrArg (fun z => some (I z)) hz1.symm)); have HC2 : Hid (wq.cell? ⟨b2, o2, none⟩ = some (I z2)) := Lib.hid (hc2.trans (congrArg (fun z => some (I z)) hz2.symm)); have HZ := Lib.hid (And.intro hz0 (And.intro hz1 hz2)); clear hb0 hb1 hb2 hc0 hc1 hc2 hA0 hA1 hA2 hz0 hz1 hz2; have NZ : Hid (bD wq [(53, H6 0 0 0 z0 z1 z2 0)] (wq.alloc (.cells #[.int .i64 0, .int .i64 0, .int .i64 0] 53))) := Lib.hid ((bD.none wq).push (by simp) _ _); have RA2 : Hid ((wq.alloc (.cells #[.int .i64 0, .int .i64 0, .int .i64 0] 53)).rangeAt g 10 e'.xU.toList) := Lib.hid (World.rangeAt_alloc RA.out _); have i34 := Lib.hid (show (Tryz.prog.info? 32).map (·.size) = some e'.xU.toList.length by kernel_rfl)
  go_wp2_with (with_reducible refine wpList_load_mid rfl 32 (.tmp 39) rfl g 10 rfl e'.xU.toList _ RA2.out Tryz.underlying32 rfl i34.out ?_)
  clear i34 RA2 RA
  go_loopw [41] (fun i wl => ∃ k : Nat, k ≤ 3 ∧ i = .int .i64 k ∧ Hid (bD wq [(53, H6 0 0 0 z0 z1 z2 k)] wl)) (fun i _ => 3 - (intOf i).toNat)
  case atStart => exact ⟨0, by omega, rfl, NZ⟩
  case round =>
   clear NZ; obtain ⟨k, hk, rfl, M⟩ := hrel
   obtain rfl | rfl | rfl | rfl : k = 3 ∨ k = 0 ∨ k = 1 ∨ k = 2 := by omega
   · obtain ⟨EE, hEE⟩ : ∃ E, E = e'.R.toList := ⟨_, rfl⟩
     obtain ⟨VV, hVV⟩ : ∃ E : List Value, E = [I z0, I z1, I z2] := ⟨_, rfl⟩
     have l29 : EE.length = 29 := by rw [hEE]; rfl
     have l3 : VV.length = 3 := by rw [hVV]; rfl
     have s29 : EE.toArray.size = 29 := by simp [l29]
     have s3 : VV.toArray.size = 3 := by simp [l3]
     have f1 : wr.rangeAt g 6 EE := by
      intro j v hv; rw [hEE] at hv; exact (Below.cell M.out.be (p := ⟨g, 6 + j, none⟩) RWH.out.lt).trans (RE.out j v hv)
     have f2 : wr.rangeAt wq.heap.size 0 VV := by rw [hVV]; exact Row.range M.out.r0 0 _ rfl
     have f3 : wr.there (w.heap.size + 1 + 1 + 1) 0 29 := Row.there (SK.out.1.below M.out.be SK.out.1.lt); have f4 : wr.there (w.heap.size + 1 + 1 + 1 + 1) 0 3 := Row.there (SK.out.2.1.below M.out.be SK.out.2.1.lt); have u37 := Tryz.underlying35; have u42 := Tryz.underlying53
     have i37 : (Tryz.prog.info? 35).map (·.size) = some EE.length := by rw [l29]; kernel_rfl
     have i42 : (Tryz.prog.info? 53).map (·.size) = some VV.length := by rw [l3]; kernel_rfl
     have a29 : ∀ v ∈ EE, v.oneCell' = true := by rw [hEE]; exact row_one e'
     have a3 : ∀ v ∈ VV, v.oneCell' = true := by rw [hVV]; intro v hv; simp at hv; rcases hv with rfl | rfl | rfl <;> rfl
     have dj : g ≠ w.heap.size + 1 + 1 + 1 ∧ g ≠ w.heap.size + 1 + 1 + 1 + 1 ∧ wq.heap.size ≠ w.heap.size + 1 + 1 + 1 ∧ wq.heap.size ≠ w.heap.size + 1 + 1 + 1 + 1 := by
      have := SK.out.2.1.lt; have := NG.out; omega
     have HF := Lib.hid (And.intro f3 f4); have BW : Hid (Below w.heap.size w wr) := Lib.hid (SK.out.2.2.2.trans (M.out.be.mono SK.out.2.2.2.size)); have OKR := Lib.hid OKH.out; have MB := Lib.hid M.out.be; clear M SK RE RWH OKH ZM HB0 HB1 HB2 HC0 HC1 HC2 IX0 IX1 IX2 QK
     go_wp2_with fail
     refine wp_region_held_drew (S := (fun w' => w'.rangeAt g 6 EE ∧ w'.rangeAt wq.heap.size 0 VV ∧ w'.there (w.heap.size + 1 + 1 + 1) 0 29 ∧ w'.there (w.heap.size + 1 + 1 + 1 + 1) 0 3)) (by kernel_rfl) (by simp only [World.rangeAt_drew, World.there_drew]; exact ⟨f1, f2, f3, f4⟩) (fun hHeld => ?_)
     refine wpAnyH_take (i := 0) (oi := _) (v := ?v0) rfl (by kernel_rfl) (by kernel_rfl) (by kernel_rfl) (fun _ _ _ h => h) (Or.inl ⟨by rfl, ?hy0⟩) (by assumption) ?_
     case hy0 =>
      intro w' hSw; simp only [List.getElem_toArray, List.getElem_cons_succ, List.getElem_cons_zero]
      go_simp
      (try with_reducible rfl)
     change wpAnyH _ _ _ _ _ _ _ (Act.put _ (some 53) _) _; simp only [Act.put, List.setIfInBounds_toArray, List.set_cons_zero, List.set_cons_succ]; refine wpAnyH_take (i := 1) (oi := _) (v := ?v1) rfl (by kernel_rfl) (by kernel_rfl) (by kernel_rfl) (fun _ _ _ h => h) (Or.inl ⟨by rfl, ?hy1⟩) (by assumption) ?_
     case hy1 =>
      intro w' hSw; simp only [List.getElem_toArray, List.getElem_cons_succ, List.getElem_cons_zero]
      go_simp
      (try with_reducible rfl)
     change wpAnyH _ _ _ _ _ _ _ (Act.put _ (some 54) _) _; simp only [Act.put, List.setIfInBounds_toArray, List.set_cons_zero, List.set_cons_succ]; refine wpAnyH_take (i := 2) (oi := _) (v := ?v2) rfl (by kernel_rfl) (by kernel_rfl) (by kernel_rfl) (fun _ _ _ h => h) (Or.inl ⟨by rfl, ?hy2⟩) (by assumption) ?_
     case hy2 =>
      intro w' hSw; simp only [List.getElem_toArray, List.getElem_cons_succ, List.getElem_cons_zero]
      go_simp
      (try with_reducible rfl)
     change wpAnyH _ _ _ _ _ _ _ (Act.put _ (some 55) _) _; simp only [Act.put, List.setIfInBounds_toArray, List.set_cons_zero, List.set_cons_succ]; refine wpAnyH_take (i := 3) (oi := _) (v := .agg EE.toArray) rfl (by kernel_rfl) (by kernel_rfl) (by kernel_rfl) (fun _ _ _ h => h) (yieldsIf_load_mid (by rfl) 35 (.tmp 55) rfl g 6 rfl EE _ (fun _ h => h.1) u37 rfl i37) (by assumption) ?_
     change wpAnyH _ _ _ _ _ _ _ (Act.put _ (some 56) _) _; simp only [Act.put, List.setIfInBounds_toArray, List.set_cons_zero, List.set_cons_succ]; refine wpAnyH_take (i := 4) (oi := _) (v := .agg VV.toArray) rfl (by kernel_rfl) (by kernel_rfl) (by kernel_rfl) (fun _ _ _ h => h) (yieldsIf_load_mid (by rfl) 53 (.tmp 11) rfl wq.heap.size 0 rfl VV _ (fun _ h => h.2.1) u42 rfl i42) (by assumption) ?_
     change wpAnyH _ _ _ _ _ _ _ (Act.put _ (some 57) _) _; simp only [Act.put, List.setIfInBounds_toArray, List.set_cons_zero, List.set_cons_succ]; refine wpAnyH_ready (rs := [5]) (by kernel_rfl) (by simp) ?_
     refine AllReadyH.cons (o := _) rfl (fun K hK => ?_) AllReadyH.nil
     rw [if_pos (by rfl)]; refine wp_store_mid 35 (.tmp 6) (.tmp 56) rfl (w.heap.size + 1 + 1 + 1) 0 EE.toArray rfl rfl (by rw [s29]; exact hHeld.2.2.1) (by rw [s29]; rw [l29] at i37; exact i37) (all_oneCell_toArray a29) ?_
     simp only [List.toList_toArray]; refine hK.out _ _ ⟨World.rangeAt_setCells_apart hHeld.1 _ _ _ (.inl dj.1), World.rangeAt_setCells_apart hHeld.2.1 _ _ _ (.inl dj.2.2.1), World.there_setCells hHeld.2.2.1 _ _ _, World.there_setCells hHeld.2.2.2 _ _ _⟩ (fun hHeld => ?_)
     clear hK K
     try simp only [Act.put, List.setIfInBounds_toArray, List.set_cons_zero, List.set_cons_succ]
     refine wpAnyH_ready (rs := [6]) (by kernel_rfl) (by simp) ?_
     refine AllReadyH.cons (o := _) rfl (fun K hK => ?_) AllReadyH.nil
     rw [if_pos (by rfl)]; refine wp_store_mid 53 (.tmp 7) (.tmp 57) rfl (w.heap.size + 1 + 1 + 1 + 1) 0 VV.toArray rfl rfl (by rw [s3]; exact hHeld.2.2.2) (by rw [s3]; rw [l3] at i42; exact i42) (all_oneCell_toArray a3) ?_
     simp only [List.toList_toArray]; refine hK.out _ _ ⟨World.rangeAt_setCells_apart hHeld.1 _ _ _ (.inl dj.2.1), World.rangeAt_setCells_apart hHeld.2.1 _ _ _ (.inl dj.2.2.2), World.there_setCells hHeld.2.2.1 _ _ _, World.there_setCells hHeld.2.2.2 _ _ _⟩ (fun hHeld => ?_)
     clear hK K
     try simp only [Act.put, List.setIfInBounds_toArray, List.set_cons_zero, List.set_cons_succ]
     refine wpAnyH_done (by kernel_rfl) ?_ _
     go_wp2_with fail
     have BF : Hid (Below w.heap.size w ((wr.drew.setCells (w.heap.size + 1 + 1 + 1) 0 EE).setCells (w.heap.size + 1 + 1 + 1 + 1) 0 VV)) := Lib.hid (KK.fQ _ _ _ (KK.fQ _ _ _ (BW.out.drew) (by omega)) (by omega)); refine bodyPost_ret (Dv rfl _ _ (w.heap.size + 1 + 1 + 1) (w.heap.size + 1 + 1 + 1 + 1) EE VV _ _ rfl ?_ u37 rfl i37 rfl ?_ u42 rfl i42) rfl ?_
     · exact World.rangeAt_setCells_apart (World.rangeAt_setCells_same _ _ _ _ (by rw [l29]; simpa using f3)) _ _ _ (.inl (by omega))
     · exact World.rangeAt_setCells_same _ _ _ _ (by rw [l3]; exact World.there_setCells (by simpa using f4) _ _ _)
     · refine ⟨e', EH.out, ?_, fun j hj => (((OKR.out j hj).below MB.out.drew).cells (.inl GG.out.1)).cells (.inr GG.out.2), BF.out⟩
       rw [hEE, hVV, HZ.out.1, HZ.out.2.1, HZ.out.2.2]; rfl
   · have c0 := Lib.hid ((Below.cell M.out.be (p := ⟨b0, o0, none⟩) HB0.out).trans HC0.out)
     have hlt := Nat.lt_of_lt_of_le HB0.out M.out.be.size; have cc := c0.out; have ix := IX0.out; have MV := M.out.r0.cell; have MF := M.out.r0.free; have lV := M.out.r0.lt; simp only [H6] at MV; go_wp2
     go_roundw
     case rel => exact ⟨0 + 1, by omega, by go_num, Lib.hid ((M.out.put 0 53 _ M.out.r0 0 (I z0)).alloc _)⟩
     case measure => simp [intOf]
   · have c1 := Lib.hid ((Below.cell M.out.be (p := ⟨b1, o1, none⟩) HB1.out).trans HC1.out)
     have hlt := Nat.lt_of_lt_of_le HB1.out M.out.be.size; have cc := c1.out; have ix := IX1.out; have MV := M.out.r0.cell; have MF := M.out.r0.free; have lV := M.out.r0.lt; simp only [H6] at MV; go_wp2
     go_roundw
     case rel => exact ⟨1 + 1, by omega, by go_num, Lib.hid ((M.out.put 0 53 _ M.out.r0 1 (I z1)).alloc _)⟩
     case measure => simp [intOf]
   · have c2 := Lib.hid ((Below.cell M.out.be (p := ⟨b2, o2, none⟩) HB2.out).trans HC2.out)
     have hlt := Nat.lt_of_lt_of_le HB2.out M.out.be.size; have cc := c2.out; have ix := IX2.out; have MV := M.out.r0.cell; have MF := M.out.r0.free; have lV := M.out.r0.lt; simp only [H6] at MV; go_wp2
     go_roundw
     case rel => exact ⟨2 + 1, by omega, by go_num, Lib.hid ((M.out.put 0 53 _ M.out.r0 2 (I z2)).alloc _)⟩
     case measure => simp [intOf]
end Go.Proofs.YtcfobekkchhbbaaGreat.EE

namespace Go.Proofs.YtcfobekkchhbbaaGreat.EE
open Go.RowKit Go.Proofs.YtcfobekkchhbbaaGreat.KK Go.Proofs.af.aU Go.Proofs.af.a_ Go.Proofs.af.bf
set_option linter.unusedVariables false
set_option linter.unusedSimpArgs false
theorem H9 (g : Nat) (c : Cf) (e : Es) (s : Sm) (w : World) (R : Row w g 111 (wk c e s 0 0 0)) (hm : s.missing = true) :
 Calls Tryz.prog 47 #[.pointer (some ⟨g, 0, none⟩)] w fun x w' => x = .returned (.tuple #[]) ∧ w' = w := by
 have hc := R.cell
 go_enter Tryz.func47, Tryz.ntmps47
 go_wp2
 exact bodyPost_ret (results_none rfl _ _ _) rfl ⟨rfl, rfl⟩
theorem IV (g : Nat) (c : Cf) (e : Es) (s : Sm) (a0 a1 a2 : Int) (w : World) (R : Row w g 111 (wk c e s a0 a1 a2)) (hm : s.missing = true) :
 Calls Tryz.prog 49 #[.pointer (some ⟨g, 0, none⟩)] w fun x w' => x = .returned (.tuple #[]) ∧ w' = w := by
 have hc := R.cell
 go_enter Tryz.func49, Tryz.ntmps49
 go_wp2
 exact bodyPost_ret (results_none rfl _ _ _) rfl ⟨rfl, rfl⟩
structure Rw (w : World) (t : Tr) : Prop where
 x : Rd w t.A t.x
 xc : t.x.length ≤ t.c
 p : Rd w t.B t.p
 pd : t.p.length ≤ t.d
theorem Rw.below {w w' : World} {t : Tr} (h : Rw w t) (hb : Below w.heap.size w w') : Rw w' t := ⟨h.x.below hb, h.xc, h.p.below hb, h.pd⟩
theorem Rx.rw {o : Prop} {g : Nat} {w : World} {t : Tr} (h : Rx o g w t) : Rw w t := ⟨h.x.rd, h.xc, h.p.rd, h.pd⟩
theorem Rw.rx {w : World} {t : Tr} (h : Rw w t) (hx : 0 < t.x.length) (hp : 0 < t.p.length) : Rx True (w.heap.size + 5) w t :=
 ⟨⟨h.x, fun ad e => .inl ⟨trivial, (by have := PR.Rd.blk h.x ad e hx; omega)⟩⟩, h.xc, ⟨h.p, fun ad e => .inl ⟨trivial, (by have := PR.Rd.blk h.p ad e hp; omega)⟩⟩, h.pd⟩
structure Gd (n : En) : Prop where
 lx : ∀ j, j < 3 → (n.x j).length = 3
 lp : ∀ j, j < 3 → (n.p j).length = 9
 s0 : 0 ≤ n.steps
 s1 : n.steps ≤ 1099511627776
 c0 : 0 ≤ n.fZ
 c1 : n.fZ ≤ 1000
 o0 : ∀ k, k < 4 → 0 ≤ n.off k
 o1 : ∀ k, k < 4 → n.off k ≤ 1000
def a3 (x y z : Int) : Nat → Int
 | 0 => x
 | 1 => y
 | _ => z
def KY (miss : Bool) (dt : Int) (n : En) (g0 g1 g2 a0 a1 a2 : Int) (n1 : En) (y : Nat → Int) : Prop :=
 (miss = true ∧ n1 = n ∧ y = a3 0 0 0) ∨
 (miss = false ∧ ∃ m0 m1 m2 m3 p0 p1 p2 p3 u0 u1 u2 u3 y0 y1 y2 F1 F2 F3 F4, P7 (PQ.cl g0) (PQ.cl g1) (PQ.cl g2) dt m0 m1 m2 m3 F1 ∧ Yb n.q0 n.q1 n.q2 n.q3 m0 m1 m2 m3 p0 p1 p2 p3 F2 ∧ UM p0 p1 p2 p3 u0 u1 u2 u3 F3 ∧
   UN u0 u1 u2 u3 (PQ.cl a0) (PQ.cl a1) (PQ.cl a2) y0 y1 y2 F4 ∧ PQ.jd (PQ.at4 u0 u1 u2 u3) 4 = true ∧
   n1 = { n with q0 := u0, q1 := u1, q2 := u2, q3 := u3, sat := (((((((n.sat || PQ.od g0) || PQ.od g1) || PQ.od g2) || PQ.od a0) || PQ.od a1) || PQ.od a2) || (((F1 || F2) || F3) || F4)) } ∧ y = a3 y0 y1 y2)
theorem KY.gd {miss : Bool} {dt : Int} {n : En} {g0 g1 g2 a0 a1 a2 : Int} {n1 : En} {y : Nat → Int} (h : KY miss dt n g0 g1 g2 a0 a1 a2 n1 y) (G : Gd n) : Gd n1 := by
 rcases h with ⟨_, rfl, _⟩ | ⟨_, _, _, _, _, _, _, _, _, _, _, _, _, _, _, _, _, _, _, _, _, _, _, _, _, rfl, _⟩
 · exact G
 · exact ⟨fun j hj => by obtain rfl | rfl | rfl : j = 0 ∨ j = 1 ∨ j = 2 := by omega
                         all_goals exact G.lx _ (by omega), fun j hj => by obtain rfl | rfl | rfl : j = 0 ∨ j = 1 ∨ j = 2 := by omega
                                                                           all_goals exact G.lp _ (by omega), G.s0, G.s1, G.c0, G.c1, fun k hk => by obtain rfl | rfl | rfl | rfl : k = 0 ∨ k = 1 ∨ k = 2 ∨ k = 3 := by omega
                                                                                                                                                     all_goals exact G.o0 _ (by omega), fun k hk => by obtain rfl | rfl | rfl | rfl : k = 0 ∨ k = 1 ∨ k = 2 ∨ k = 3 := by omega
                                                                                                                                                                                                       all_goals exact G.o1 _ (by omega)⟩
def ahF (c : Cf) : List Int := [16777216, c.dt, 0, 0, 16777216, (ng 0 c.dt).1, 0, 0, 16777216]
def ahQ (c : Cf) : List Int := iH [0, (kE c.acc c.dt).1, (kE c.bias c.dt).1]
def ZA (c : Cf) (n : En) (j : Nat) : List Int := mulL 3 3 1 (ahF c) (n.x j)
def ahP (c : Cf) (n : En) (j : Nat) : List Int := PR.zi 3 (kC jL 3 3 (PR.jI 3 3 (ahF c) (n.p j)) (ahQ c))
def ahY (c : Cf) (n : En) (y : Nat → Int) (j : Nat) : Int := (jL ((ZA c n j).getD 1 0) (kE (y j) c.dt).1).1
def ahS (c : Cf) (n : En) (y : Nat → Int) : Bool :=
 SS (((n.sat || (ng 0 c.dt).2) || (kE c.acc c.dt).2) || (kE c.bias c.dt).2) (fun j => (kE (y j) c.dt).2) (fun j => (jL ((ZA c n j).getD 1 0) (kE (y j) c.dt).1).2) (fun j => uy 3 3 1 (ahF c) (n.x j)) (fun j => PR.pJ 3 3 (ahF c) (n.p j)) (fun j => kZ jL 3 3 (PR.jI 3 3 (ahF c) (n.p j)) (ahQ c)) 3
def En.ahead (c : Cf) (n : En) (y : Nat → Int) : En :=
 { n with x0 := (ZA c n 0).set 1 (ahY c n y 0), p0 := ahP c n 0, x1 := (ZA c n 1).set 1 (ahY c n y 1), p1 := ahP c n 1, x2 := (ZA c n 2).set 1 (ahY c n y 2), p2 := ahP c n 2, sat := ahS c n y }
theorem PY (c : Cf) (n : En) (j : Nat) : (ZA c n j).length = 3 := PR.lC 3 3 1 _ _
theorem Xb (c : Cf) (n : En) (j : Nat) : (ahP c n j).length = 9 := by unfold ahP PR.zi; rw [PR.yg, PR.zn]
theorem Gd.ahead {c : Cf} {n : En} {y : Nat → Int} (G : Gd n) : Gd (En.ahead c n y) :=
 ⟨fun j hj => by
   obtain rfl | rfl | rfl : j = 0 ∨ j = 1 ∨ j = 2 := by omega
   all_goals simp [En.x, En.ahead, PY], fun j hj => by
   obtain rfl | rfl | rfl : j = 0 ∨ j = 1 ∨ j = 2 := by omega
   all_goals simp [En.p, En.ahead, Xb], G.s0, G.s1, G.c0, G.c1, fun k hk => by
   obtain rfl | rfl | rfl | rfl : k = 0 ∨ k = 1 ∨ k = 2 ∨ k = 3 := by omega
   all_goals exact G.o0 _ (by omega), fun k hk => by
   obtain rfl | rfl | rfl | rfl : k = 0 ∨ k = 1 ∨ k = 2 ∨ k = 3 := by omega
   all_goals exact G.o1 _ (by omega)⟩
theorem VC (a b : Int) : PQ.InR (kE a b).1 := PQ.sgB _ _ _
theorem not_odd {a : Int} (h : PQ.InR a) : ny a = false := by
 have := h.1; have := h.2
 unfold ny
 simp
 omega
theorem UH (g : Nat) (c : Cf) (e : Es) (s : Sm) (y : Nat → Int) (w : World) (R : Row w g 111 (wk c e s (y 0) (y 1) (y 2))) (hr : Ok True g w e) (G : Gd e.nu) :
 Calls Tryz.prog 48 #[.pointer (some ⟨g, 0, none⟩)] w fun r w' => r = .returned (.tuple #[]) ∧ ∃ e' : Es, e'.nu = En.ahead c e.nu y ∧ Ok False g w' e' ∧ jP w g c e' s (y 0) (y 1) (y 2) w' := by
 refine (KX g c e s y (ng 0 c.dt).1 (kE c.acc c.dt).1 (kE c.bias c.dt).1 _ _ _ (ahQ c) (ZA c e.nu) _ _ (ahP c e.nu) _ _ _ _ _ _ (ahY c e.nu y) w R hr (fun j hj => ⟨by rw [FD]; exact G.lx j hj, by rw [Il]; exact G.lp j hj⟩)
  (fun w => zT _ _ w) (fun w => jW _ _ w) (fun w => jW _ _ w) rfl (PR.l7 _) (by simp [List.any, not_odd (VC _ _), show ny 0 = false from rfl]) (fun j hj => by rw [FD, Il]; exact ⟨rfl, rfl, rfl, rfl, rfl, rfl, rfl⟩) (fun j _ => PY c e.nu j)
  (fun j hj w => jW _ _ w) (fun j hj w => xP _ _ w)).mono ?_
 rintro r w' ⟨rfl, t, ht, hw⟩; refine ⟨rfl, _, ?_, ?_, hw⟩
 · simp only [Es.nu, (ht 0 (by decide)).1, (ht 0 (by decide)).2.1, (ht 1 (by decide)).1, (ht 1 (by decide)).2.1, (ht 2 (by decide)).1, (ht 2 (by decide)).2.1]
   rfl
 · intro j hj
   obtain rfl | rfl | rfl : j = 0 ∨ j = 1 ∨ j = 2 := by omega
   all_goals exact (ht _ (by omega)).2.2
def Qk (n : En) (i k : Nat) (z r gate : Int) (n' : En) : Prop := ∃ X P tk fl, yG n i k z r gate X P tk fl ∧ n' = n.held i k X P tk (PQ.od z || fl)
structure Ql (c : Cf) (n : En) (s : Sm) (n' : En) : Prop where
 miss : s.missing = true → n' = n
 go : s.missing = false → ∃ (m1 : En) (gk : Nat → En), (s.hasB = true → Qk n 2 0 s.kL c.kL c.gate m1) ∧ (s.hasB = false → m1 = n) ∧ gk 0 = m1 ∧ gk 3 = n' ∧
  (s.FI = true → ∀ k, k < 3 → Qk (gk k) k (k + 1) (s.n k) c.pF c.gate (gk (k + 1))) ∧ (s.FI = false → ∀ k, k < 3 → gk (k + 1) = gk k)
theorem Wj {o : Prop} (g : Nat) (c : Cf) (e : Es) (s : Sm) (a0 a1 a2 : Int) (n' : En) (w : World) (R : Row w g 111 (wk c e s a0 a1 a2)) (hr : Ok o g w e) (hb : 0 < c.kL) (hn : 0 < c.pF) (H : Ql c e.nu s n') :
 Calls Tryz.prog 49 #[.pointer (some ⟨g, 0, none⟩)] w fun x w' => x = .returned (.tuple #[]) ∧ ∃ e' : Es, e'.nu = n' ∧ Ok o g w' e' ∧ jP w g c e' s a0 a1 a2 w' := by
 cases hm : s.missing
 case true =>
  refine (IV g c e s a0 a1 a2 w R hm).mono ?_
  rintro x w' ⟨rfl, rfl⟩; exact ⟨rfl, e, (H.miss hm).symm, hr, R, gG _ _⟩
 obtain ⟨m1, gk, h1, h2, h3, h4, h5, h6⟩ := H.go hm
 have hB : ∃ XB PB Xz XT, s.hasB = true → 0 < c.kL ∧ yG e.nu 2 0 s.kL c.kL c.gate XB PB Xz XT ∧ m1 = e.nu.held 2 0 XB PB Xz (PQ.od s.kL || XT) := by
  cases hb' : s.hasB
  · exact ⟨[], [], false, false, fun h => by cases h⟩
  · obtain ⟨X, P, tk, fl, ht, he⟩ := h1 hb'
    exact ⟨X, P, tk, fl, fun _ => ⟨hb, ht, he⟩⟩
 obtain ⟨XB, PB, Xz, XT, hB⟩ := hB
 have hG : ∃ (XG PG : Nat → List Int) (Xy XR : Nat → Bool), s.FI = true → 0 < c.pF ∧ ∀ k, k < 3 → yG (gk k) k (k + 1) (s.n k) c.pF c.gate (XG k) (PG k) (Xy k) (XR k) ∧ gk (k + 1) = (gk k).held k (k + 1) (XG k) (PG k) (Xy k) (PQ.od (s.n k) || XR k) := by
  cases hg' : s.FI
  · exact ⟨fun _ => [], fun _ => [], fun _ => false, fun _ => false, fun h => by cases h⟩
  · obtain ⟨X0, P0, t0, f0, e0, d0⟩ := h5 hg' 0 (by decide)
    obtain ⟨X1, P1, t1, f1, e1, d1⟩ := h5 hg' 1 (by decide); obtain ⟨X2, P2, t2, f2, e2, d2⟩ := h5 hg' 2 (by decide); refine ⟨fun k => match k with | 0 => X0 | 1 => X1 | _ => X2, fun k => match k with | 0 => P0 | 1 => P1 | _ => P2, fun k => match k with | 0 => t0 | 1 => t1 | _ => t2, fun k => match k with | 0 => f0 | 1 => f1 | _ => f2, fun _ => ⟨hn, fun k hk => ?_⟩⟩
    obtain rfl | rfl | rfl : k = 0 ∨ k = 1 ∨ k = 2 := by omega
    · exact ⟨e0, d0⟩
    · exact ⟨e1, d1⟩
    · exact ⟨e2, d2⟩
 obtain ⟨XG, PG, Xy, XR, hG⟩ := hG; refine (Nz g c e s a0 a1 a2 m1 gk XB PB Xz XT XG PG Xy XR w R hr hm hB h2 h3 hG h6).mono ?_
 rintro x w' ⟨rfl, e', he, ho, hw⟩; exact ⟨rfl, e', he.trans h4, ho, hw⟩
def En.cnt (n : En) (miss : Bool) : En := { n with steps := min (n.steps + 1) 1099511627776, fZ := if miss = true then min (n.fZ + 1) 1000 else 0 }
theorem Gd.cnt {n : En} (G : Gd n) (m : Bool) : Gd (n.cnt m) :=
 ⟨fun j hj => by
   obtain rfl | rfl | rfl : j = 0 ∨ j = 1 ∨ j = 2 := by omega
   all_goals exact G.lx _ (by omega), fun j hj => by
   obtain rfl | rfl | rfl : j = 0 ∨ j = 1 ∨ j = 2 := by omega
   all_goals exact G.lp _ (by omega), by have := G.s0; simp only [En.cnt]; omega, by simp only [En.cnt]; omega, by have := G.c0; simp only [En.cnt]; split <;> omega, by simp only [En.cnt]; split <;> omega, fun k hk => by
   obtain rfl | rfl | rfl | rfl : k = 0 ∨ k = 1 ∨ k = 2 ∨ k = 3 := by omega
   all_goals exact G.o0 _ (by omega), fun k hk => by
   obtain rfl | rfl | rfl | rfl : k = 0 ∨ k = 1 ∨ k = 2 ∨ k = 3 := by omega
   all_goals exact G.o1 _ (by omega)⟩
structure Ro (n0 : Nat) (w : World) (t : Tr) : Prop where
 rw : Rw w t
 na : ∀ ad, t.A = some ad → n0 ≤ ad.block
 nb : ∀ ad, t.B = some ad → n0 ≤ ad.block
theorem Ro.below {n0 : Nat} {w w' : World} {t : Tr} (h : Ro n0 w t) (hb : Below w.heap.size w w') : Ro n0 w' t := ⟨h.rw.below hb, h.na, h.nb⟩
theorem Ro.grown {n0 : Nat} {w w' : World} {t : Tr} (h : Ro n0 w t) {b : Nat} (hg : w.grownBy w' (some b)) (hb : b < n0) : Ro n0 w' t :=
 ⟨⟨Rd.gr h.rw.x hg (fun ad e => by have := h.na ad e; omega), h.rw.xc, Rd.gr h.rw.p hg (fun ad e => by have := h.nb ad e; omega), h.rw.pd⟩, h.na, h.nb⟩
theorem Ti {w : World} {base c : Nat} {A : Option Addr} {l : List Int} (h : Own w base (.slice A l.length c) l) : ∀ ad, A = some ad → base ≤ ad.block := fun ad e => by
 subst e; exact (h.row.lt ad.block rfl).1
def UO (c : Cf) (n : En) (s : Sm) (n' : En) : Prop := ∀ (e : Es) (w : World), e.nu = n → (∀ j, j < 3 → Rw w (e.ax j)) →
 Calls Tryz.prog 22 #[.agg c.R, .agg e.R, .agg s.R] w fun x w' => ∃ e' : Es, e'.nu = n' ∧ x = .returned (.tuple #[.agg e'.R, .agg #[I (n'.x0.getD 0 0), I (n'.x1.getD 0 0), I (n'.x2.getD 0 0)]]) ∧ (∀ j, j < 3 → Ro w.heap.size w' (e'.ax j)) ∧ Below w.heap.size w w'
theorem Vr (c : Cf) (n : En) (s : Sm) (n1 n3 : En) (y : Nat → Int) (G : Gd n) (hb : 0 < c.kL) (hn : 0 < c.pF) (T : KY s.missing c.dt n s.g0 s.g1 s.g2 s.a0 s.a1 s.a2 n1 y) (H : Ql c (En.ahead c n1 y) s n3) (G3 : Gd n3) : UO c n s (n3.cnt s.missing) := by
 intro e w he hr; subst he; have G1 := T.gd G; refine (Qw c e s w (fun i w' => match i with
  | 0 => Row w' (w.heap.size + 5) 111 (wk c e s 0 0 0) ∧ Ok True (w.heap.size + 5) w' e
  | 1 => ∃ e1 : Es, e1.nu = n1 ∧ Ok True (w.heap.size + 5) w' e1 ∧ Row w' (w.heap.size + 5) 111 (wk c e1 s (y 0) (y 1) (y 2))
  | 2 => ∃ e1 : Es, e1.nu = En.ahead c n1 y ∧ Ok False (w.heap.size + 5) w' e1 ∧ Row w' (w.heap.size + 5) 111 (wk c e1 s (y 0) (y 1) (y 2))
  | 3 => ∃ e1 : Es, e1.nu = n3 ∧ Ok False (w.heap.size + 5) w' e1 ∧ Row w' (w.heap.size + 5) 111 (wk c e1 s (y 0) (y 1) (y 2))
  | _ => ∃ e1 : Es, e1.nu = n3.cnt s.missing ∧ Ok False (w.heap.size + 5) w' e1 ∧ Row w' (w.heap.size + 5) 111 (wk c e1 s (y 0) (y 1) (y 2))) (fun e' => e'.nu = n3.cnt s.missing) (w.heap.size + 5) rfl ?_ ?_ ?_ ?_ ?_ ?_).mono ?_
 · intro w' R hb
   exact ⟨R, fun j hj => ((hr j hj).rx (by rw [FD, G.lx j hj]; decide) (by rw [Il, G.lp j hj]; decide)).below hb⟩
 · rintro w' ⟨R, ho⟩
   rcases T with ⟨hm, rfl, rfl⟩ | ⟨hm, m0, m1, m2, m3, p0, p1, p2, p3, u0, u1, u2, u3, y0, y1, y2, F1, F2, F3, F4, h1, h2, h3, h4, _, rfl, rfl⟩
   · refine (H9 _ c e s w' R hm).mono ?_
     rintro x w2 ⟨rfl, rfl⟩; exact ⟨rfl, ⟨e, rfl, ho, R⟩, gG _ _⟩
   · refine (uq _ c e s m0 m1 m2 m3 p0 p1 p2 p3 u0 u1 u2 u3 y0 y1 y2 F1 F2 F3 F4 w' R hm h1 h2 h3 h4).mono ?_
     rintro x w2 ⟨rfl, hw⟩; refine ⟨rfl, ⟨_, ?_, ?_, hw.row⟩, hw.gr⟩
     · rfl
     · intro j hj
       have := (ho j hj).gr hw.gr
       obtain rfl | rfl | rfl : j = 0 ∨ j = 1 ∨ j = 2 := by omega
       all_goals exact this
 · rintro w' ⟨e1, rfl, ho, R⟩
   refine (UH _ c e1 s y w' R ho G1).mono ?_
   rintro x w2 ⟨rfl, e2, h2, ho2, hw⟩; exact ⟨rfl, ⟨e2, h2, ho2, hw.row⟩, hw.gr⟩
 · rintro w' ⟨e1, h1, ho, R⟩
   refine (Wj _ c e1 s _ _ _ n3 w' R ho hb hn (by rw [h1]; exact H)).mono ?_
   rintro x w2 ⟨rfl, e2, h2, ho2, hw⟩; exact ⟨rfl, ⟨e2, h2, ho2, hw.row⟩, hw.gr⟩
 · rintro w' ⟨e1, rfl, ho, R⟩
   refine (KI _ c e1 s _ _ _ w' R G3.s0 G3.s1 G3.c0 G3.c1).mono ?_
   rintro x w2 ⟨rfl, hw⟩; refine ⟨rfl, ⟨_, ?_, ?_, hw.row⟩, hw.gr⟩
   · rfl
   · intro j hj
     have := (ho j hj).gr hw.gr
     obtain rfl | rfl | rfl : j = 0 ∨ j = 1 ∨ j = 2 := by omega
     all_goals exact this
 · rintro w' ⟨e1, h1, ho, R⟩
   exact ⟨e1, _, _, _, h1, R, ho, fun j hj => by rw [FD, h1]; exact (G3.cnt _).lx j hj⟩
 · rintro x w' ⟨e', he, rfl, hx, hb⟩
   refine ⟨e', he, ?_, fun j hj => ⟨(hx j hj).rw, fun ad e => Nat.le_of_lt (Nat.lt_of_le_of_lt (Nat.le_add_right _ 5) ((hx j hj).x.beyond ad e)), fun ad e => Nat.le_of_lt (Nat.lt_of_le_of_lt (Nat.le_add_right _ 5) ((hx j hj).p.beyond ad e))⟩, hb⟩
   rw [← he]; rfl
end Go.Proofs.YtcfobekkchhbbaaGreat.EE

namespace Go.Proofs.YtcfobekkchhbbaaGreat.EE
open Go.RowKit Go.Proofs.YtcfobekkchhbbaaGreat.KK Go.Proofs.af.aU Go.Proofs.af.a_ Go.Proofs.af.bf
set_option linter.unusedVariables false
set_option linter.unusedSimpArgs false
def rC (q : Int) : Bool := decide (q ≤ 0) || decide (q > 17179869184)
theorem Oa (q : Int) (w : World) : Calls Tryz.prog 37 #[I q] w fun e w' => e = .returned (.bool (rC q)) ∧ Below w.heap.size w w' := by
 by_cases h : q ≤ 0
 · have h0 : decide (q ≤ 0) = true := decide_eq_true h
   clear h
   go_enter Tryz.func37, Tryz.ntmps37
   go_wp2
   go_ret
   exact ⟨by simp [rC, h0], Below.refl _ _⟩
 · have h0 : decide (q ≤ 0) = false := decide_eq_false h
   clear h
   go_enter Tryz.func37, Tryz.ntmps37
   go_wp2
   go_ret
   exact ⟨by simp [rC, h0], Below.refl _ _⟩
theorem SN {l : List Int} {j : Nat} {x : Int} (h : l[j]? = some x) (ha : (l.take j).any rC = false) (hx : rC x = false) : (l.take (j + 1)).any rC = false := by
 rw [List.take_add_one, h, List.any_append, ha]
 simp [hx]
theorem Zx {l : List Int} {j : Nat} {x : Int} (h : l[j]? = some x) (hx : rC x = true) : l.any rC = true :=
 List.any_eq_true.2 ⟨x, List.mem_of_getElem? h, hx⟩
theorem QX (A : Option Addr) (c : Nat) (l : List Int) (w : World) (hw : Rd w A l) (hlen : l.length ≤ 1000000) :
 Calls Tryz.prog 78 #[.slice A l.length c, .func (.func 37) #[] #[]] w fun e w' => ∃ x, e = .returned (I x) ∧ decide (x ≥ 0) = l.any rC ∧ Below w.heap.size w w' := by
 have HW := Lib.hid hw; have HL := Lib.hid hlen; clear hw hlen
 go_enter Tryz.func78, Tryz.ntmps78
 go_wp2_with fail
 go_loopw [8] (fun i wr => ∃ k : Nat, k ≤ l.length ∧ i = .int .i64 k ∧ Hid ((l.take k).any rC = false) ∧ Hid (Below w.heap.size w wr)) (fun i _ => l.length - (intOf i).toNat)
 case atStart => exact ⟨0, by omega, rfl, Lib.hid (by simp), Lib.hid (Below.refl _ _)⟩
 case round =>
  obtain ⟨k, hk, rfl, F, HB⟩ := hrel
  by_cases hkl : k = l.length
  · subst hkl
    go_wp2
    go_ret
    exact ⟨_, rfl, by have := F.out; rw [List.take_length] at this; rw [this]; rfl, HB.out⟩
  have hlt : (k : Int) < l.length := by omega
  have hk0 : (0 : Int) ≤ k := by omega
  have STEP : Hid (k + 1 ≤ l.length ∧ l.length - (k + 1) < l.length - k) := Lib.hid (by omega)
  have hw64 : IntKind.i64.wrap ((k : Int) + 1) = (k : Int) + 1 := by have := HL.out; simp [IntKind.wrap, IntKind.bits, IntKind.signed]; omega
  obtain ⟨b, off, rfl, hb, hc⟩ := (HW.out.below HB.out).cells (by omega)
  obtain ⟨x, hx⟩ : ∃ x, l[k]? = some x := ⟨l[k]'(by omega), List.getElem?_eq_getElem (by omega)⟩
  have c0 := hc k x hx; have HX := Lib.hid hx; clear hc hx hk hkl
  go_wp2_with fail
  refine (Oa x _).mono ?_
  rintro e w2 ⟨rfl, hb2⟩; have HB2 := Lib.hid (HB.out.trans (hb2.mono HB.out.size)); clear hb2
  cases hq : rC x
  · have HQ := Lib.hid hq
    clear hq; go_wp2
    go_roundw
    case rel => exact ⟨k + 1, STEP.out.1, by go_num, Lib.hid (SN HX.out F.out HQ.out), HB2⟩
    case measure =>
     have h := STEP.out.2; show l.length - ((k : Int) + 1).toNat < l.length - ((k : Int)).toNat; rw [show ((k : Int) + 1).toNat = k + 1 by omega, show ((k : Int)).toNat = k by omega]; exact h
  · have HQ := Lib.hid hq
    clear hq; go_wp2
    go_ret
    exact ⟨_, rfl, by rw [Zx HX.out HQ.out]; simp, HB2.out⟩
theorem Jl (A : Option Addr) (c : Nat) (l : List Int) (w : World) (hw : Rd w A l) (hlen : l.length ≤ 1000000) :
 Calls Tryz.prog 36 #[.slice A l.length c, .func (.func 37) #[] #[]] w fun e w' => e = .returned (.bool (l.any rC)) ∧ Below w.heap.size w w' := by
 have H := Lib.hid (QX A c l w hw hlen); clear hw hlen
 go_enter Tryz.func36, Tryz.ntmps36
 go_wp2_with fail
 refine H.out.mono ?_
 rintro e w2 ⟨x, rfl, hx, hb⟩; have HB := Lib.hid hb; have HX := Lib.hid hx; clear hb hx; go_wp2
 go_ret
 exact ⟨by rw [← HX.out]; rfl, HB.out⟩
def Cf.l (c : Cf) : List Int := [c.dt, c.acc, c.bias, c.kL, c.pF, c.gate]
def Cf.may (c : Cf) : Bool := !c.l.any rC
theorem Ad (c : Cf) (w : World) : Calls Tryz.prog 12 #[.agg c.row] w fun e w' => e = .returned (.bool c.may) ∧ Below w.heap.size w w' := by
 have H : Hid (Calls Tryz.prog 36 #[.slice (some ⟨w.heap.size + 1, 0, none⟩) 6 6, .func (.func 37) #[] #[]] ((w.alloc (.cells c.row 24)).alloc (.cells #[I c.dt, I c.acc, I c.bias, I c.kL, I c.pF, I c.gate] 22)) fun e w' => e = .returned (.bool (c.l.any rC)) ∧ Below ((w.alloc (.cells c.row 24)).alloc (.cells #[I c.dt, I c.acc, I c.bias, I c.kL, I c.pF, I c.gate] 22)).heap.size ((w.alloc (.cells c.row 24)).alloc (.cells #[I c.dt, I c.acc, I c.bias, I c.kL, I c.pF, I c.gate] 22)) w') := Lib.hid (by
  have hr := Rd.new (w.alloc (.cells c.row 24)) 22 c.l (by simp [Cf.l]); have := Jl (some ⟨(w.alloc (.cells c.row 24)).heap.size, 0, none⟩) 6 c.l _ hr (by simp [Cf.l]); rw [World.size_alloc] at this; exact this)
 have B0 := Lib.hid (((Below.refl w.heap.size w).alloc (Nat.le_refl _) (.cells c.row 24)).alloc (by simp) (.cells #[I c.dt, I c.acc, I c.bias, I c.kL, I c.pF, I c.gate] 22))
 go_enter Tryz.func12, Tryz.ntmps12
 go_wp2_with fail
 refine H.out.mono ?_
 rintro e w2 ⟨rfl, hb⟩; have HB := Lib.hid (B0.out.trans (hb.mono B0.out.size)); clear hb; go_wp2
 go_ret
 exact ⟨rfl, HB.out⟩
theorem Ro.own {w : World} {base c d n0 : Nat} {A B : Option Addr} {x p : List Int} (h : Own w base (.slice A x.length c) x) (k : Own w base (.slice B p.length d) p) (hn : n0 ≤ base) : Ro n0 w ⟨A, c, x, B, d, p⟩ :=
 ⟨⟨(PR.Own.rd h).1, (PR.Own.rd h).2, (PR.Own.rd k).1, (PR.Own.rd k).2⟩, fun ad e => Nat.le_trans hn (Ti h ad e), fun ad e => Nat.le_trans hn (Ti k ad e)⟩
def oU : List Int := iH [1677721600, 167772160, 16777216]
def lD (t : Nat → Tr) : Nat → Array Value
 | 0 => #[I 16777216, I 0, I 0, I 0, I 0, I 0, .slice none 0 0, I 0, I 0, .slice none 0 0, I 0, I 0, .slice none 0 0, I 0, I 0, .slice none 0 0, I 0, I 0, .slice none 0 0, I 0, I 0, .slice none 0 0, I 0, I 0, I 0, I 0, I 0, I 0, .bool false]
 | 1 => #[I 16777216, I 0, I 0, I 0, I 3, I 1, .slice (t 0).A 3 (t 0).c, I 3, I 3, .slice (t 0).B 9 (t 0).d, I 0, I 0, .slice none 0 0, I 0, I 0, .slice none 0 0, I 0, I 0, .slice none 0 0, I 0, I 0, .slice none 0 0, I 0, I 0, I 0, I 0, I 0, I 0, .bool false]
 | 2 => #[I 16777216, I 0, I 0, I 0, I 3, I 1, .slice (t 0).A 3 (t 0).c, I 3, I 3, .slice (t 0).B 9 (t 0).d, I 3, I 1, .slice (t 1).A 3 (t 1).c, I 3, I 3, .slice (t 1).B 9 (t 1).d, I 0, I 0, .slice none 0 0, I 0, I 0, .slice none 0 0, I 0, I 0, I 0, I 0, I 0, I 0, .bool false]
 | _ => #[I 16777216, I 0, I 0, I 0, I 3, I 1, .slice (t 0).A 3 (t 0).c, I 3, I 3, .slice (t 0).B 9 (t 0).d, I 3, I 1, .slice (t 1).A 3 (t 1).c, I 3, I 3, .slice (t 1).B 9 (t 1).d, I 3, I 1, .slice (t 2).A 3 (t 2).c, I 3, I 3, .slice (t 2).B 9 (t 2).d, I 0, I 0, I 0, I 0, I 0, I 0, .bool false]
theorem Du {P : Program} {fn : Func} {p u : Tmp} {ty : TypeId} (h : fn.results = #[.cell p ty, .tmp u]) (tmps : Array Value) (w : World) (g : Nat) (cs : List Value) (d : TypeDesc)
 (hp : tmps.getD p undef = .pointer (some ⟨g, 0, none⟩)) (hg : w.rangeAt g 0 cs) (hu : P.underlying ty = some d) (hd : d.isRow = true) (hi : (P.info? ty).map (·.size) = some cs.length) :
 (results fn tmps).run P w = .ok (.tuple #[.agg cs.toArray, tmps.getD u undef]) w := by
 have h1 : tmps[p]?.getD undef = .pointer (some ⟨g, 0, none⟩) := by simpa using hp
 simp [results, h, h1, asAddr, run_loadVar_mid w g 0 ty cs d hg hu hd hi]
theorem Iq (A1 A2 : Option Addr) (w : World) (rx : Rd w A1 [0, 0, 0]) (rv : Rd w A2 [1677721600, 167772160, 16777216]) :
 Calls Tryz.prog 33 #[.slice A1 3 3, .slice A2 3 3] w fun e w' => ∃ t : Tr, e = .returned (.tuple #[.agg #[I 3, I 1, .slice t.A 3 t.c, I 3, I 3, .slice t.B 9 t.d], I 0]) ∧ t.x = [0, 0, 0] ∧ t.p = oU ∧ Ro w.heap.size w' t ∧ Below w.heap.size w w' := by
 refine (PR.Nj A1 A2 3 3 [0, 0, 0] [1677721600, 167772160, 16777216] w rx (by decide) rv (by decide) ⟨rfl, by decide, by decide, ?_, ?_, ?_⟩).mono ?_
 · intro j
   match j with
   | 0 | 1 | 2 => decide
   | j + 3 => simp
 · intro j
   match j with
   | 0 | 1 | 2 => decide
   | j + 3 => simp
 · intro j
   match j with
   | 0 | 1 | 2 => decide
   | j + 3 => simp
 · rintro e w' ⟨Ax, dx, Ap, dp, rfl, ox, hx, op, hp, hb⟩
   exact ⟨⟨Ax, dx, [0, 0, 0], Ap, dp, oU⟩, rfl, rfl, rfl, Ro.own ox op (Nat.le_refl _), hb⟩
end Go.Proofs.YtcfobekkchhbbaaGreat.EE

namespace Go.Proofs.YtcfobekkchhbbaaGreat.EE
open Go.RowKit Go.Proofs.YtcfobekkchhbbaaGreat.KK Go.Proofs.af.aU Go.Proofs.af.a_ Go.Proofs.af.bf
set_option linter.unusedVariables false
set_option linter.unusedSimpArgs false
abbrev six (w : World) (B o : Nat) (a b c d e f : Value) : World := (((((w.setCell ⟨B, o, none⟩ a).setCell ⟨B, o + 1, none⟩ b).setCell ⟨B, o + 2, none⟩ c).setCell ⟨B, o + 3, none⟩ d).setCell ⟨B, o + 4, none⟩ e).setCell ⟨B, o + 5, none⟩ f
theorem QF : ∀ (vs pre rest : List Value), rest.length = vs.length → Fp (pre ++ rest) pre.length vs = pre ++ vs := by
 intro vs
 induction vs with
 | nil => intro pre rest h; simp only [List.length_nil, List.length_eq_zero_iff] at h; subst h; rfl
 | cons v vs ih =>
   intro pre rest h
   cases rest with
   | nil => simp at h
   | cons r rest =>
     have := ih (pre ++ [v]) rest (by simpa using h)
     simpa [Fp] using this
theorem Row.full {w : World} {B : Nat} {t : TypeId} {C : Array Value} (R : Row w B t C) (D : Array Value) (h : D.size = C.size) : Row (w.setCells B 0 D.toList) B t D := by
 obtain ⟨arr, h1, h2⟩ := KK.Row.setCells D.toList 0 w C R; have h3 := QF D.toList [] C.toList (by simp [h]); simp only [List.nil_append, List.length_nil] at h3; rw [h3] at h2; have : arr = D := Array.toList_inj.mp h2
 rwa [this] at h1
def rF : Array Value := lD (fun _ => ⟨none, 0, [], none, 0, []⟩) 0
def vU (t : Nat → Tr) (k : Nat) (u : Tr) : Nat → Tr := fun j => if j = k then u else t j
theorem VJ (t : Nat → Tr) (u : Tr) : ((((((lD t 0).setIfInBounds 4 (I 3)).setIfInBounds 5 (I 1)).setIfInBounds 6 (.slice u.A 3 u.c)).setIfInBounds 7 (I 3)).setIfInBounds 8 (I 3)).setIfInBounds 9 (.slice u.B 9 u.d) = lD (vU t 0 u) 1 := by kernel_rfl
theorem VI (t : Nat → Tr) (u : Tr) : ((((((lD t 1).setIfInBounds 10 (I 3)).setIfInBounds 11 (I 1)).setIfInBounds 12 (.slice u.A 3 u.c)).setIfInBounds 13 (I 3)).setIfInBounds 14 (I 3)).setIfInBounds 15 (.slice u.B 9 u.d) = lD (vU t 1 u) 2 := by kernel_rfl
theorem VH (t : Nat → Tr) (u : Tr) : ((((((lD t 2).setIfInBounds 16 (I 3)).setIfInBounds 17 (I 1)).setIfInBounds 18 (.slice u.A 3 u.c)).setIfInBounds 19 (I 3)).setIfInBounds 20 (I 3)).setIfInBounds 21 (.slice u.B 9 u.d) = lD (vU t 2 u) 3 := by kernel_rfl
theorem _root_.Go.Proofs.YtcfobekkchhbbaaGreat.KK.bD.six {w0 w : World} {L : List (TypeId × Array Value)} (h : bD w0 L w) {B : Nat} (hp : w0.heap.size + L.length ≤ B) (o : Nat) (a b c d e f : Value) : bD w0 L (EE.six w B o a b c d e f) :=
 (((((bD.set h (p := ⟨B, o, none⟩) hp a).set (p := ⟨B, o + 1, none⟩) hp b).set (p := ⟨B, o + 2, none⟩) hp c).set (p := ⟨B, o + 3, none⟩) hp d).set (p := ⟨B, o + 4, none⟩) hp e).set (p := ⟨B, o + 5, none⟩) hp f
theorem qC (w : World) (B o : Nat) (a b c d e f : Value) : w.grownBy (six w B o a b c d e f) (some B) :=
 dJ (dJ (dJ (dJ (dJ (dJ (gG _ _) _ _) _ _) _ _) _ _) _ _) _ _
theorem Ro.alloc {n0 : Nat} {w : World} {t : Tr} (h : Ro n0 w t) (o : Obj) : Ro n0 (w.alloc o) t := h.below ((Below.refl _ _).alloc (Nat.le_refl _) o)
theorem Ro.mono {n0 n1 : Nat} {w : World} {t : Tr} (h : Ro n0 w t) (hn : n1 ≤ n0) : Ro n1 w t := ⟨h.rw, fun ad e => Nat.le_trans hn (h.na ad e), fun ad e => Nat.le_trans hn (h.nb ad e)⟩
theorem nT {P : Program} {fn : Func} {p u : Tmp} {ty : TypeId} (h : fn.results = #[.cell p ty, .tmp u]) (tmps : Array Value) (w : World) (g : Nat) (C : Array Value) (d : TypeDesc)
 (hp : tmps.getD p undef = .pointer (some ⟨g, 0, none⟩)) (hg : w.rangeAt g 0 C.toList) (hu : P.underlying ty = some d) (hd : d.isRow = true) (hi : (P.info? ty).map (·.size) = some C.size) :
 (results fn tmps).run P w = .ok (.tuple #[.agg C, tmps.getD u undef]) w := by
 have := Du h tmps w g C.toList d hp hg hu hd (by simpa using hi)
 simpa using this
theorem Row.whole {w : World} {B : Nat} {t : TypeId} {C : Array Value} (R : Row w B t C) : w.rangeAt B 0 C.toList := Row.range R 0 _ (by simp)
theorem DU (c : Cf) (w : World) (hm : c.may = true) : Calls Tryz.prog 9 #[.agg c.row] w fun x w' => ∃ t : Nat → Tr, x = .returned (.tuple #[.agg (lD t 3), I 0]) ∧ (∀ j, j < 3 → (t j).x = [0, 0, 0] ∧ (t j).p = oU ∧ Ro w.heap.size w' (t j)) ∧ Below w.heap.size w w' := by
 have HM := Lib.hid hm; have L : Hid (bD w [(24, c.row), (35, #[.int .i64 0, .int .i64 0, .int .i64 0, .int .i64 0, .int .i64 0, .int .i64 0, .slice none 0 0, .int .i64 0, .int .i64 0, .slice none 0 0, .int .i64 0, .int .i64 0, .slice none 0 0, .int .i64 0, .int .i64 0, .slice none 0 0, .int .i64 0, .int .i64 0, .slice none 0 0, .int .i64 0, .int .i64 0, .slice none 0 0, .int .i64 0, .int .i64 0, .int .i64 0, .int .i64 0, .int .i64 0, .int .i64 0, .bool false])] (((w.alloc (.cells c.row 24)).alloc (.cells #[.int .i64 0, .int .i64 0, .int .i64 0, .int .i64 0, .int .i64 0, .int .i64 0, .slice none 0 0, .int .i64 0, .int .i64 0, .slice none 0 0, .int .i64 0, .int .i64 0, .slice none 0 0, .int .i64 0, .int .i64 0, .slice none 0 0, .int .i64 0, .int .i64 0, .slice none 0 0, .int .i64 0, .int .i64 0, .slice none 0 0, .int .i64 0, .int .i64 0, .int .i64 0, .int .i64 0, .int .i64 0, .int .i64 0, .bool false] 35)))) := Lib.hid (((bD.none w).push (by simp) _ _).push (by simp) _ _); have LZ : Hid (((w.alloc (.cells c.row 24)).alloc (.cells #[.int .i64 0, .int .i64 0, .int .i64 0, .int .i64 0, .int .i64 0, .int .i64 0, .slice none 0 0, .int .i64 0, .int .i64 0, .slice none 0 0, .int .i64 0, .int .i64 0, .slice none 0 0, .int .i64 0, .int .i64 0, .slice none 0 0, .int .i64 0, .int .i64 0, .slice none 0 0, .int .i64 0, .int .i64 0, .slice none 0 0, .int .i64 0, .int .i64 0, .int .i64 0, .int .i64 0, .int .i64 0, .int .i64 0, .bool false] 35)).heap.size = w.heap.size + 2) := Lib.hid (by simp); clear hm
 go_enter Tryz.func9, Tryz.ntmps9
 go_upto_region 1 with fail
 generalize ((w.alloc (.cells c.row 24)).alloc (.cells #[.int .i64 0, .int .i64 0, .int .i64 0, .int .i64 0, .int .i64 0, .int .i64 0, .slice none 0 0, .int .i64 0, .int .i64 0, .slice none 0 0, .int .i64 0, .int .i64 0, .slice none 0 0, .int .i64 0, .int .i64 0, .slice none 0 0, .int .i64 0, .int .i64 0, .slice none 0 0, .int .i64 0, .int .i64 0, .slice none 0 0, .int .i64 0, .int .i64 0, .int .i64 0, .int .i64 0, .int .i64 0, .int .i64 0, .bool false] 35)) = w2 at L LZ ⊢; have hc := L.out.r0.cell
 go_wp2_with fail
 refine (Ad c _).mono ?_
 rintro x w3 ⟨rfl, hb⟩; have L3 := Lib.hid (L.out.below hb); clear hb hc L; rw [HM.out]; have Yf : Hid (∀ w', (Instr.build 35 #[(0, .agg #[I 16777216, I 0, I 0, I 0])]).run Tryz.prog w' = .ok (.agg rF) w') := Lib.hid (fun w' => by kernel_rfl); have HT : Hid ((w3.alloc (.cells #[.int .i64 0, .int .i64 0, .int .i64 0, .int .i64 0, .int .i64 0, .int .i64 0, .slice none 0 0, .int .i64 0, .int .i64 0, .slice none 0 0, .int .i64 0, .int .i64 0, .slice none 0 0, .int .i64 0, .int .i64 0, .slice none 0 0, .int .i64 0, .int .i64 0, .slice none 0 0, .int .i64 0, .int .i64 0, .slice none 0 0, .int .i64 0, .int .i64 0, .int .i64 0, .int .i64 0, .int .i64 0, .int .i64 0, .bool false] 35)).there w3.heap.size 0 rF.size) := Lib.hid (by have h := Row.there (Row.new w3 35 #[.int .i64 0, .int .i64 0, .int .i64 0, .int .i64 0, .int .i64 0, .int .i64 0, .slice none 0 0, .int .i64 0, .int .i64 0, .slice none 0 0, .int .i64 0, .int .i64 0, .slice none 0 0, .int .i64 0, .int .i64 0, .slice none 0 0, .int .i64 0, .int .i64 0, .slice none 0 0, .int .i64 0, .int .i64 0, .slice none 0 0, .int .i64 0, .int .i64 0, .int .i64 0, .int .i64 0, .int .i64 0, .int .i64 0, .bool false]); exact h); have i37 : Hid ((Tryz.prog.info? 35).map (·.size) = some rF.size) := Lib.hid (by kernel_rfl); have one : Hid (rF.all (·.oneCell') = true) := Lib.hid (by kernel_rfl); have R4 : Hid (Row ((w3.alloc (.cells #[.int .i64 0, .int .i64 0, .int .i64 0, .int .i64 0, .int .i64 0, .int .i64 0, .slice none 0 0, .int .i64 0, .int .i64 0, .slice none 0 0, .int .i64 0, .int .i64 0, .slice none 0 0, .int .i64 0, .int .i64 0, .slice none 0 0, .int .i64 0, .int .i64 0, .slice none 0 0, .int .i64 0, .int .i64 0, .slice none 0 0, .int .i64 0, .int .i64 0, .int .i64 0, .int .i64 0, .int .i64 0, .int .i64 0, .bool false] 35)).setCells w3.heap.size 0 rF.toList) w3.heap.size 35 rF) := Lib.hid (Row.full (Row.new w3 35 #[.int .i64 0, .int .i64 0, .int .i64 0, .int .i64 0, .int .i64 0, .int .i64 0, .slice none 0 0, .int .i64 0, .int .i64 0, .slice none 0 0, .int .i64 0, .int .i64 0, .slice none 0 0, .int .i64 0, .int .i64 0, .slice none 0 0, .int .i64 0, .int .i64 0, .slice none 0 0, .int .i64 0, .int .i64 0, .slice none 0 0, .int .i64 0, .int .i64 0, .int .i64 0, .int .i64 0, .int .i64 0, .int .i64 0, .bool false]) rF rfl); have L4 : Hid (bD w [(24, c.row), (35, #[.int .i64 0, .int .i64 0, .int .i64 0, .int .i64 0, .int .i64 0, .int .i64 0, .slice none 0 0, .int .i64 0, .int .i64 0, .slice none 0 0, .int .i64 0, .int .i64 0, .slice none 0 0, .int .i64 0, .int .i64 0, .slice none 0 0, .int .i64 0, .int .i64 0, .slice none 0 0, .int .i64 0, .int .i64 0, .slice none 0 0, .int .i64 0, .int .i64 0, .int .i64 0, .int .i64 0, .int .i64 0, .int .i64 0, .bool false])] ((w3.alloc (.cells #[.int .i64 0, .int .i64 0, .int .i64 0, .int .i64 0, .int .i64 0, .int .i64 0, .slice none 0 0, .int .i64 0, .int .i64 0, .slice none 0 0, .int .i64 0, .int .i64 0, .slice none 0 0, .int .i64 0, .int .i64 0, .slice none 0 0, .int .i64 0, .int .i64 0, .slice none 0 0, .int .i64 0, .int .i64 0, .slice none 0 0, .int .i64 0, .int .i64 0, .int .i64 0, .int .i64 0, .int .i64 0, .int .i64 0, .bool false] 35)).setCells w3.heap.size 0 rF.toList)) := Lib.hid (bD.app (L3.out.alloc _) (jg rF.toList 0 _) (fun g e => by injection e with e; subst e; exact L3.out.rows.le L3.out.be.size)); have LB : Hid (w.heap.size + 2 ≤ w3.heap.size) := Lib.hid (L3.out.rows.le L3.out.be.size)
 go_upto_region 4 with (first
  | (with_reducible refine wpList_build rfl 35 #[(0, .tmp 10)] rfl #[(0, .agg #[I 16777216, I 0, I 0, I 0])] (by kernel_rfl) _ (Yf.out _) ?_)
  | (with_reducible refine wpList_store_mid rfl 35 (.tmp 4) (.tmp 11) rfl w3.heap.size 0 rF rfl rfl HT.out i37.out one.out ?_))
 clear Yf HT i37 one L3; generalize (w3.alloc (.cells #[.int .i64 0, .int .i64 0, .int .i64 0, .int .i64 0, .int .i64 0, .int .i64 0, .slice none 0 0, .int .i64 0, .int .i64 0, .slice none 0 0, .int .i64 0, .int .i64 0, .slice none 0 0, .int .i64 0, .int .i64 0, .slice none 0 0, .int .i64 0, .int .i64 0, .slice none 0 0, .int .i64 0, .int .i64 0, .slice none 0 0, .int .i64 0, .int .i64 0, .int .i64 0, .int .i64 0, .int .i64 0, .int .i64 0, .bool false] 35)).setCells w3.heap.size 0 rF.toList = w4 at R4 L4 ⊢; generalize w3.heap.size = B at R4 LB ⊢
 go_wp2_with fail
 go_loopw [12] (fun i wl => ∃ (k : Nat) (t : Nat → Tr), k ≤ 3 ∧ i = .int .i64 k ∧ Hid (bD w [(24, c.row), (35, #[.int .i64 0, .int .i64 0, .int .i64 0, .int .i64 0, .int .i64 0, .int .i64 0, .slice none 0 0, .int .i64 0, .int .i64 0, .slice none 0 0, .int .i64 0, .int .i64 0, .slice none 0 0, .int .i64 0, .int .i64 0, .slice none 0 0, .int .i64 0, .int .i64 0, .slice none 0 0, .int .i64 0, .int .i64 0, .slice none 0 0, .int .i64 0, .int .i64 0, .int .i64 0, .int .i64 0, .int .i64 0, .int .i64 0, .bool false])] wl) ∧ Hid (Row wl B 35 (lD t k)) ∧ Hid (∀ j, j < k → (t j).x = [0, 0, 0] ∧ (t j).p = oU ∧ Ro (B + 1) wl (t j))) (fun i _ => 3 - (intOf i).toNat)
 case atStart => exact ⟨0, (fun _ => ⟨none, 0, [], none, 0, []⟩), by omega, rfl, L4, R4, Lib.hid (fun j hj => by omega)⟩
 case round =>
  clear L4 R4; obtain ⟨k, t, hk, rfl, L, R, T⟩ := hrel
  have mk : ∀ w', (Instr.makeSlice 27 (.int .i64 3) (.int .i64 3)).run Tryz.prog w' = .ok (.slice (some ⟨w'.heap.size, 0, none⟩) 3 3) (w'.alloc (.cells #[I 0, I 0, I 0] 22)) := fun w' => by
   have h := Gh w' 3 (by decide); rw [show madeCells #[I 0] 3 = #[I 0, I 0, I 0] from by kernel_rfl] at h; exact h
  have RX : Hid (∀ w' : World, Rd ((w'.alloc (.cells #[I 0, I 0, I 0] 22)).alloc (.cells #[I 1677721600, I 167772160, I 16777216] 22)) (some ⟨w'.heap.size, 0, none⟩) [0, 0, 0]) := Lib.hid (fun w' => (Rd.new w' 22 [0, 0, 0] (by simp)).below ((Below.refl _ _).alloc (Nat.le_refl _) _))
  have RV : Hid (∀ w' : World, Rd ((w'.alloc (.cells #[I 0, I 0, I 0] 22)).alloc (.cells #[I 1677721600, I 167772160, I 16777216] 22)) (some ⟨w'.heap.size + 1, 0, none⟩) [1677721600, 167772160, 16777216]) := Lib.hid (fun w' => by
   have h := Rd.new (w'.alloc (.cells #[I 0, I 0, I 0] 22)) 22 [1677721600, 167772160, 16777216] (by simp); rw [World.size_alloc] at h; exact h)
  obtain rfl | rfl | rfl | rfl : k = 3 ∨ k = 0 ∨ k = 1 ∨ k = 2 := by omega
  · clear mk RX RV
    have RA := Lib.hid (Row.whole R.out); have i37 : Hid ((Tryz.prog.info? 35).map (·.size) = some (lD t 3).toList.length) := Lib.hid (by kernel_rfl); have TQ : Hid ((Tryz.prog.info? 35).map (·.size) = some (lD t 3).size) := Lib.hid (by kernel_rfl); have one : Hid ((lD t 3).all (·.oneCell') = true) := Lib.hid (by kernel_rfl); have HT : Hid (wr.there (w.heap.size + 1) 0 (lD t 3).size) := Lib.hid (by have h := Row.there L.out.r1; exact h)
    go_wp2_with (first
     | (with_reducible refine wpList_load_mid rfl 35 (.tmp 4) rfl B 0 rfl (lD t 3).toList _ RA.out Tryz.underlying35 rfl i37.out ?_)
     | (with_reducible refine wpList_store_mid rfl 35 (.tmp 2) (.tmp 25) rfl (w.heap.size + 1) 0 (lD t 3) rfl rfl HT.out TQ.out one.out ?_))
    refine bodyPost_ret (nT rfl _ _ (w.heap.size + 1) (lD t 3) _ rfl (World.rangeAt_setCells_same _ _ _ _ (by have h := HT.out; simpa using h)) Tryz.underlying35 rfl TQ.out) rfl ?_
    refine ⟨t, rfl, fun j hj => ⟨(T.out j hj).1, (T.out j hj).2.1, ((T.out j hj).2.2.grown (jg _ _ _) (by have := LB.out; omega)).mono (by have := LB.out; omega)⟩, KK.fQ _ _ _ L.out.be (by omega)⟩
  · go_wp2_with fail
    refine (Iq _ _ _ (RX.out _) (RV.out _)).mono ?_
    rintro x w5 ⟨u, rfl, ux, up, uo, hb⟩; have L5 := Lib.hid (((L.out.alloc _).alloc _).below hb); have R5 := Lib.hid (Row.below ((R.out.alloc _).alloc _) hb ((R.out.alloc _).alloc _).lt); have T5 : Hid (∀ j, j < 0 → (t j).x = [0, 0, 0] ∧ (t j).p = oU ∧ Ro (B + 1) w5 (t j)) := Lib.hid (fun j hj => ⟨(T.out j hj).1, (T.out j hj).2.1, (((T.out j hj).2.2.alloc _).alloc _).below hb⟩); have U5 : Hid (u.x = [0, 0, 0] ∧ u.p = oU ∧ Ro (B + 1) w5 u) := Lib.hid ⟨ux, up, uo.mono (by have := R.out.lt; simp; omega)⟩; clear ux up uo hb L R T mk RX RV; have c5 := R5.out.cell; have f5 := R5.out.free; simp only [lD] at c5; go_wp2
    go_roundw
    case rel =>
     refine ⟨0 + 1, vU t 0 u, by omega, by go_num, Lib.hid (L5.out.six LB.out 4 _ _ _ _ _ _), Lib.hid ?_, Lib.hid ?_⟩
     · rw [← VJ]
       exact (((((R5.out.set 4 _).set 5 _).set 6 _).set 7 _).set 8 _).set 9 _
     · intro j hj
       by_cases h : j = 0
       · subst h
         exact ⟨U5.out.1, U5.out.2.1, U5.out.2.2.grown (qC _ _ 4 _ _ _ _ _ _) (Nat.lt_succ_self _)⟩
       · have h1 := T5.out j (by omega)
         have e : vU t 0 u j = t j := if_neg h; rw [e]; exact ⟨h1.1, h1.2.1, h1.2.2.grown (qC _ _ 4 _ _ _ _ _ _) (Nat.lt_succ_self _)⟩
    case measure => simp [intOf]
  · go_wp2_with fail
    refine (Iq _ _ _ (RX.out _) (RV.out _)).mono ?_
    rintro x w5 ⟨u, rfl, ux, up, uo, hb⟩; have L5 := Lib.hid (((L.out.alloc _).alloc _).below hb); have R5 := Lib.hid (Row.below ((R.out.alloc _).alloc _) hb ((R.out.alloc _).alloc _).lt); have T5 : Hid (∀ j, j < 1 → (t j).x = [0, 0, 0] ∧ (t j).p = oU ∧ Ro (B + 1) w5 (t j)) := Lib.hid (fun j hj => ⟨(T.out j hj).1, (T.out j hj).2.1, (((T.out j hj).2.2.alloc _).alloc _).below hb⟩); have U5 : Hid (u.x = [0, 0, 0] ∧ u.p = oU ∧ Ro (B + 1) w5 u) := Lib.hid ⟨ux, up, uo.mono (by have := R.out.lt; simp; omega)⟩; clear ux up uo hb L R T mk RX RV; have c5 := R5.out.cell; have f5 := R5.out.free; simp only [lD] at c5; go_wp2
    go_roundw
    case rel =>
     refine ⟨1 + 1, vU t 1 u, by omega, by go_num, Lib.hid (L5.out.six LB.out 10 _ _ _ _ _ _), Lib.hid ?_, Lib.hid ?_⟩
     · rw [← VI]
       exact (((((R5.out.set 10 _).set 11 _).set 12 _).set 13 _).set 14 _).set 15 _
     · intro j hj
       by_cases h : j = 1
       · subst h
         exact ⟨U5.out.1, U5.out.2.1, U5.out.2.2.grown (qC _ _ 10 _ _ _ _ _ _) (Nat.lt_succ_self _)⟩
       · have h1 := T5.out j (by omega)
         have e : vU t 1 u j = t j := if_neg h; rw [e]; exact ⟨h1.1, h1.2.1, h1.2.2.grown (qC _ _ 10 _ _ _ _ _ _) (Nat.lt_succ_self _)⟩
    case measure => simp [intOf]
  · go_wp2_with fail
    refine (Iq _ _ _ (RX.out _) (RV.out _)).mono ?_
    rintro x w5 ⟨u, rfl, ux, up, uo, hb⟩; have L5 := Lib.hid (((L.out.alloc _).alloc _).below hb); have R5 := Lib.hid (Row.below ((R.out.alloc _).alloc _) hb ((R.out.alloc _).alloc _).lt); have T5 : Hid (∀ j, j < 2 → (t j).x = [0, 0, 0] ∧ (t j).p = oU ∧ Ro (B + 1) w5 (t j)) := Lib.hid (fun j hj => ⟨(T.out j hj).1, (T.out j hj).2.1, (((T.out j hj).2.2.alloc _).alloc _).below hb⟩); have U5 : Hid (u.x = [0, 0, 0] ∧ u.p = oU ∧ Ro (B + 1) w5 u) := Lib.hid ⟨ux, up, uo.mono (by have := R.out.lt; simp; omega)⟩; clear ux up uo hb L R T mk RX RV; have c5 := R5.out.cell; have f5 := R5.out.free; simp only [lD] at c5; go_wp2
    go_roundw
    case rel =>
     refine ⟨2 + 1, vU t 2 u, by omega, by go_num, Lib.hid (L5.out.six LB.out 16 _ _ _ _ _ _), Lib.hid ?_, Lib.hid ?_⟩
     · rw [← VH]
       exact (((((R5.out.set 16 _).set 17 _).set 18 _).set 19 _).set 20 _).set 21 _
     · intro j hj
       by_cases h : j = 2
       · subst h
         exact ⟨U5.out.1, U5.out.2.1, U5.out.2.2.grown (qC _ _ 16 _ _ _ _ _ _) (Nat.lt_succ_self _)⟩
       · have h1 := T5.out j (by omega)
         have e : vU t 2 u j = t j := if_neg h; rw [e]; exact ⟨h1.1, h1.2.1, h1.2.2.grown (qC _ _ 16 _ _ _ _ _ _) (Nat.lt_succ_self _)⟩
    case measure => simp [intOf]
end Go.Proofs.YtcfobekkchhbbaaGreat.EE

namespace Go.Proofs.YtcfobekkchhbbaaGreat.EE
open Go.RowKit Go.Proofs.YtcfobekkchhbbaaGreat.KK Go.Proofs.af.aU Go.Proofs.af.a_ Go.Proofs.af.bf
set_option linter.unusedVariables false
set_option linter.unusedSimpArgs false
def iy (q : Int) : Bool := decide (q < 0) || decide (q > 1000)
theorem yD (q : Int) (w : World) : Calls Tryz.prog 40 #[I q] w fun e w' => e = .returned (.bool (iy q)) ∧ Below w.heap.size w w' := by
 by_cases h : q < 0
 · have h0 : decide (q < 0) = true := decide_eq_true h
   clear h
   go_enter Tryz.func40, Tryz.ntmps40
   go_wp2
   go_ret
   exact ⟨by simp [iy, h0], Below.refl _ _⟩
 · have h0 : decide (q < 0) = false := decide_eq_false h
   clear h
   go_enter Tryz.func40, Tryz.ntmps40
   go_wp2
   go_ret
   exact ⟨by simp [iy, h0], Below.refl _ _⟩
theorem Qv {l : List Int} {j : Nat} {x : Int} (h : l[j]? = some x) (ha : (l.take j).any iy = false) (hx : iy x = false) : (l.take (j + 1)).any iy = false := by
 rw [List.take_add_one, h, List.any_append, ha]
 simp [hx]
theorem WY {l : List Int} {j : Nat} {x : Int} (h : l[j]? = some x) (hx : iy x = true) : l.any iy = true :=
 List.any_eq_true.2 ⟨x, List.mem_of_getElem? h, hx⟩
theorem Nr (A : Option Addr) (c : Nat) (l : List Int) (w : World) (hw : Rd w A l) (hlen : l.length ≤ 1000000) :
 Calls Tryz.prog 83 #[.slice A l.length c, .func (.func 40) #[] #[]] w fun e w' => ∃ x, e = .returned (I x) ∧ decide (x ≥ 0) = l.any iy ∧ Below w.heap.size w w' := by
 have HW := Lib.hid hw; have HL := Lib.hid hlen; clear hw hlen
 go_enter Tryz.func83, Tryz.ntmps83
 go_wp2_with fail
 go_loopw [8] (fun i wr => ∃ k : Nat, k ≤ l.length ∧ i = .int .i64 k ∧ Hid ((l.take k).any iy = false) ∧ Hid (Below w.heap.size w wr)) (fun i _ => l.length - (intOf i).toNat)
 case atStart => exact ⟨0, by omega, rfl, Lib.hid (by simp), Lib.hid (Below.refl _ _)⟩
 case round =>
  obtain ⟨k, hk, rfl, F, HB⟩ := hrel
  by_cases hkl : k = l.length
  · subst hkl
    go_wp2
    go_ret
    exact ⟨_, rfl, by have := F.out; rw [List.take_length] at this; rw [this]; rfl, HB.out⟩
  have hlt : (k : Int) < l.length := by omega
  have hk0 : (0 : Int) ≤ k := by omega
  have STEP : Hid (k + 1 ≤ l.length ∧ l.length - (k + 1) < l.length - k) := Lib.hid (by omega)
  have hw64 : IntKind.i64.wrap ((k : Int) + 1) = (k : Int) + 1 := by have := HL.out; simp [IntKind.wrap, IntKind.bits, IntKind.signed]; omega
  obtain ⟨b, off, rfl, hb, hc⟩ := (HW.out.below HB.out).cells (by omega)
  obtain ⟨x, hx⟩ : ∃ x, l[k]? = some x := ⟨l[k]'(by omega), List.getElem?_eq_getElem (by omega)⟩
  have c0 := hc k x hx; have HX := Lib.hid hx; clear hc hx hk hkl
  go_wp2_with fail
  refine (yD x _).mono ?_
  rintro e w2 ⟨rfl, hb2⟩; have HB2 := Lib.hid (HB.out.trans (hb2.mono HB.out.size)); clear hb2
  cases hq : iy x
  · have HQ := Lib.hid hq
    clear hq; go_wp2
    go_roundw
    case rel => exact ⟨k + 1, STEP.out.1, by go_num, Lib.hid (Qv HX.out F.out HQ.out), HB2⟩
    case measure =>
     have h := STEP.out.2; show l.length - ((k : Int) + 1).toNat < l.length - ((k : Int)).toNat; rw [show ((k : Int) + 1).toNat = k + 1 by omega, show ((k : Int)).toNat = k by omega]; exact h
  · have HQ := Lib.hid hq
    clear hq; go_wp2
    go_ret
    exact ⟨_, rfl, by rw [WY HX.out HQ.out]; simp, HB2.out⟩
theorem yt (A : Option Addr) (c : Nat) (l : List Int) (w : World) (hw : Rd w A l) (hlen : l.length ≤ 1000000) :
 Calls Tryz.prog 42 #[.slice A l.length c, .func (.func 40) #[] #[]] w fun e w' => e = .returned (.bool (l.any iy)) ∧ Below w.heap.size w w' := by
 have H := Lib.hid (Nr A c l w hw hlen); clear hw hlen
 go_enter Tryz.func42, Tryz.ntmps42
 go_wp2_with fail
 refine H.out.mono ?_
 rintro e w2 ⟨x, rfl, hx, hb⟩; have HB := Lib.hid hb; have HX := Lib.hid hx; clear hb hx; go_wp2
 go_ret
 exact ⟨by rw [← HX.out]; rfl, HB.out⟩
theorem Rd.part {w : World} {b o : Nat} {t : TypeId} {C : Array Value} {l : List Int} (R : Row w b t C) (hl : l.length ≤ 1000) (h : ∀ j x, l[j]? = some x → C[o + j]? = some (I x)) : Rd w (some ⟨b, o, none⟩) l := by
 refine ⟨rfl, by show l.length ≤ _; omega, fun hp => ⟨_, rfl, fun j x hx => ?_⟩⟩
 refine ⟨[I x], by first | rfl | (show _ ≤ _; omega) | trivial, rfl, fun k u hu => ?_⟩
 have hk : k = 0 := by
  cases k with
  | zero => rfl
  | succ k => simp at hu
 subst hk
 simp at hu
 subst hu; have h1 : (Kd.int .i64).sz = 1 := rfl
 have ea : ∀ n, (⟨b, o, none⟩ : Addr).add n = ⟨b, o + n, none⟩ := fun n => by unfold Addr.add; split <;> simp_all
 rw [h1, Nat.mul_one, Nat.add_zero, ea, R.cell]; exact h j x hx
def Es.right (e : Es) : Bool := PQ.jd (PQ.at4 e.q0 e.q1 e.q2 e.q3) 4 && decide (0 ≤ e.steps) && decide (e.steps ≤ 1099511627776) && !iy e.fZ && !([e.f0, e.f1, e.f2, e.f3].any iy)
theorem QB (e : Es) (w : World) (hr : ∀ j, j < 3 → Rw w (e.ax j)) (hl : ∀ j, j < 3 → (e.ax j).x.length = 3 ∧ (e.ax j).p.length = 9) (ht : ∀ j, j < 3 → PR.iV 3 1 (e.ax j).x 3 3 (e.ax j).p) :
 Calls Tryz.prog 15 #[.agg e.R] w fun x w' => x = .returned (.bool e.right) ∧ Below w.heap.size w w' := by
 have HK : Hid (∀ j, j < 3 → ∀ w', Below w.heap.size w w' → Calls Tryz.prog 39 #[.agg (e.ax j).row] w' fun x w'' => x = .returned (.bool true) ∧ Below w'.heap.size w' w'') := Lib.hid (fun j hj w' hb =>
  PR.yU 3 (e.ax j).A (e.ax j).c (e.ax j).x (e.ax j).B (e.ax j).d (e.ax j).p w' ((hr j hj).x.below hb) (hr j hj).xc ((hr j hj).p.below hb) (hr j hj).pd (ht j hj))
 have L : Hid (bD w [(35, e.R)] (w.alloc (.cells e.R 35))) := Lib.hid ((bD.none w).push (by simp) _ _); have HL := Lib.hid hl; clear hr hl ht
 go_enter Tryz.func15, Tryz.ntmps15
 go_upto_region 1 with fail
 generalize (w.alloc (.cells e.R 35)) = w1 at L ⊢; have RA := Lib.hid (Row.range L.out.r0 4 e.xU.toList (by kernel_rfl)); have i34 := Lib.hid (show (Tryz.prog.info? 32).map (·.size) = some e.xU.toList.length by kernel_rfl)
 go_wp2_with (with_reducible refine wpList_load_mid rfl 32 (.tmp 6) rfl w.heap.size 4 rfl e.xU.toList _ RA.out Tryz.underlying32 rfl i34.out ?_)
 clear RA i34; have IX : Hid ((∀ w', (Instr.index 32 (.agg e.xU) (.int .i64 0)).run Tryz.prog w' = .ok (.agg e.t0.row) w') ∧ (∀ w', (Instr.index 32 (.agg e.xU) (.int .i64 1)).run Tryz.prog w' = .ok (.agg e.t1.row) w') ∧ (∀ w', (Instr.index 32 (.agg e.xU) (.int .i64 2)).run Tryz.prog w' = .ok (.agg e.t2.row) w')) := Lib.hid ⟨fun w' => by kernel_rfl, fun w' => by kernel_rfl, fun w' => by kernel_rfl⟩
 go_loopw [8] (fun i wl => ∃ k : Nat, k ≤ 3 ∧ i = .int .i64 k ∧ Hid (bD w [(35, e.R)] wl)) (fun i _ => 3 - (intOf i).toNat)
 case atStart => exact ⟨0, by omega, rfl, L⟩
 case round =>
  clear L; obtain ⟨k, hk, rfl, L⟩ := hrel
  obtain rfl | rfl | rfl | rfl : k = 3 ∨ k = 0 ∨ k = 1 ∨ k = 2 := by omega
  · have hc : ∀ i, wr.cell? ⟨w.heap.size, i, none⟩ = e.row[i]? := L.out.r0.cell
    go_wp2_with fail
    refine (PQ.kG e.q0 e.q1 e.q2 e.q3 _).mono ?_
    rintro x w5 ⟨rfl, hb⟩; have L5 := Lib.hid (L.out.below hb); clear hb hc L HK IX; have hc : ∀ i, w5.cell? ⟨w.heap.size, i, none⟩ = e.row[i]? := L5.out.r0.cell
    cases h1 : PQ.jd (PQ.at4 e.q0 e.q1 e.q2 e.q3) 4
    · go_wp2
      go_ret
      exact ⟨by simp [Es.right, h1], L5.out.be⟩
    cases h2 : decide (e.steps ≥ 0)
    · go_wp2
      go_ret
      exact ⟨by simp only [Es.right, h1, show decide (0 ≤ e.steps) = false from h2]; rfl, L5.out.be⟩
    cases h3 : decide (e.steps ≤ 1099511627776)
    · go_wp2
      go_ret
      exact ⟨by simp only [Es.right, h1, h3, show decide (0 ≤ e.steps) = true from h2]; rfl, L5.out.be⟩
    go_wp2_with fail
    refine (yD e.fZ _).mono ?_
    rintro x w6 ⟨rfl, hb⟩; have L6 := Lib.hid (L5.out.below hb); clear hb hc L5; have hc : ∀ i, w6.cell? ⟨w.heap.size, i, none⟩ = e.row[i]? := L6.out.r0.cell
    cases h4 : iy e.fZ
    case true =>
     go_wp2
     go_ret
     exact ⟨by simp only [Es.right, h1, h3, h4, show decide (0 ≤ e.steps) = true from h2]; rfl, L6.out.be⟩
    go_wp2_with fail
    refine (yt (some ⟨w.heap.size, 24, none⟩) 4 [e.f0, e.f1, e.f2, e.f3] w6 (Rd.part L6.out.r0 (by simp) (fun j x hx => ?_)) (by simp)).mono ?_
    · match j, hx with
      | 0, hx => injection hx with hx; subst hx; rfl
      | 1, hx => injection hx with hx; subst hx; rfl
      | 2, hx => injection hx with hx; subst hx; rfl
      | 3, hx => injection hx with hx; subst hx; rfl
      | j + 4, hx => simp at hx
    rintro x w7 ⟨rfl, hb⟩; have L7 := Lib.hid (L6.out.below hb); clear hb hc L6; go_wp2
    go_ret
    have hE : (!iy e.f0 && (!iy e.f1 && (!iy e.f2 && !iy e.f3))) = !([e.f0, e.f1, e.f2, e.f3].any iy) := by
     simp only [List.any_cons, List.any_nil]; generalize iy e.f0 = a, iy e.f1 = b, iy e.f2 = c, iy e.f3 = d
     revert a b c d
     decide
    have hR : e.right = (!iy e.f0 && (!iy e.f1 && (!iy e.f2 && !iy e.f3))) := by
     rw [hE]; simp only [Es.right, h1, h3, h4, show decide (0 ≤ e.steps) = true from h2]; rfl
    exact ⟨by rw [hR]; rfl, L7.out.be⟩
  · have ix := IX.out.1
    have z0 := L.out.r0.lt
    go_wp2_with fail
    refine (HK.out 0 (by decide) _ (L.out.alloc _).be).mono ?_
    rintro x w5 ⟨rfl, hb⟩; have L5 := Lib.hid ((L.out.alloc _).below hb); have R5 := Lib.hid (Row.below (Row.new wr 31 e.t0.row) hb (Row.new wr 31 e.t0.row).lt); clear hb L; have c5 := R5.out.cell 0; go_wp2
    go_roundw
    case rel => exact ⟨0 + 1, by omega, by go_num, L5⟩
    case measure => simp [intOf]
  · have ix := IX.out.2.1
    have z0 := L.out.r0.lt
    go_wp2_with fail
    refine (HK.out 1 (by decide) _ (L.out.alloc _).be).mono ?_
    rintro x w5 ⟨rfl, hb⟩; have L5 := Lib.hid ((L.out.alloc _).below hb); have R5 := Lib.hid (Row.below (Row.new wr 31 e.t1.row) hb (Row.new wr 31 e.t1.row).lt); clear hb L; have c5 := R5.out.cell 0; go_wp2
    go_roundw
    case rel => exact ⟨1 + 1, by omega, by go_num, L5⟩
    case measure => simp [intOf]
  · have ix := IX.out.2.2
    have z0 := L.out.r0.lt
    go_wp2_with fail
    refine (HK.out 2 (by decide) _ (L.out.alloc _).be).mono ?_
    rintro x w5 ⟨rfl, hb⟩; have L5 := Lib.hid ((L.out.alloc _).below hb); have R5 := Lib.hid (Row.below (Row.new wr 31 e.t2.row) hb (Row.new wr 31 e.t2.row).lt); clear hb L; have c5 := R5.out.cell 0; go_wp2
    go_roundw
    case rel => exact ⟨2 + 1, by omega, by go_num, L5⟩
    case measure => simp [intOf]
end Go.Proofs.YtcfobekkchhbbaaGreat.EE

namespace Go.Proofs.YtcfobekkchhbbaaGreat.EE
open Go.RowKit Go.Proofs.YtcfobekkchhbbaaGreat.KK Go.Proofs.af.aU Go.Proofs.af.a_ Go.Proofs.af.bf
set_option linter.unusedVariables false
set_option linter.unusedSimpArgs false
theorem Qp : (Tryz.prog.info? 2).map (fun i => (i.zero, i.size, i.bytes)) = some (some (I 0), 1, 8) := by kernel_rfl
abbrev Ba (w : World) (base : Nat) (v : Value) (l : List Int) : Prop := w.ownsRow base 2 1 v l.length (l.map I)
theorem WZ (w : World) (ty : TypeId) (base : Nat) (v : Value) (ad : Addr) (c : Nat) (l : List Int) (x : Int) (hown : Ba w base v l) (hbase : base ≤ w.heap.size) (hx : w.cell? ad = some (I x)) (hlen : l.length ≤ 1000000) :
 ∃ A c' w', (Builtin.append_ #[46, 46] ty #[v, .slice (some ad) 1 c]).run Tryz.prog w = .ok (.slice A (l ++ [x]).length c') w' ∧ Ba w' base (.slice A (l ++ [x]).length c') (l ++ [x]) ∧ w.grownBy w' v.ownBlock ∧ ((Value.slice A (l ++ [x]).length c').ownBlock = v.ownBlock ∨ (Value.slice A (l ++ [x]).length c').ownBlock = some w.heap.size) := by
 obtain ⟨i0, hi0, hz0, hz1, hz2⟩ := info_parts Qp
 have h1 : ∀ u ∈ ([I x] : List Value), u.oneCell' = true := by intro u hu; simp at hu; subst hu; rfl
 obtain ⟨v', w', hr, ho, hg, _, hat⟩ := run_append_own_at (P := Tryz.prog) w base 46 ty 2 i0 (I 0) 1 8 Tryz.underlying46 hi0 hz0 hz1 hz2 rfl (by omega) v l.length (l.map I) hown ad 1 c [I x] rfl (fun j u hj => by
  cases j with
  | zero =>
    simp at hj
    subst hj
    have e : ad.add 0 = ad := by
     have h := yN hx; generalize ad.block = b, ad.off = o at h; subst h; rfl
    rw [e]; exact hx
  | succ j => simp at hj) h1 (by simp only [maxLen]; omega) (by omega) hbase
 have e : l.map I ++ [I x] = (l ++ [x]).map I := by simp
 have e2 : l.length + 1 = (l ++ [x]).length := by simp
 rw [e, e2] at ho
 rcases ho.2 with ⟨rfl, h0⟩ | ⟨g, cap, cur, rfl, _⟩
 · simp at h0
 · exact ⟨_, _, w', hr, ho, hg, hat⟩
theorem Dl (w : World) {ops : Array Oper} {rest : List Oper} {o : Oper} {a : Act} {Q : Exit → Act → World → Prop} (hgd : o.guard = none) (s x : Operand)
 (ho : o.op = .call { callee := .builtin .append, args := #[s, x], argTypes := #[46, 46] })
 (base : Nat) (v : Value) (ad : Addr) (c : Nat) (l : List Int) (y : Int) (hs : a.eval s = v) (hy : a.eval x = .slice (some ad) 1 c) (hown : Ba w base v l) (hbase : base ≤ w.heap.size) (hx : w.cell? ad = some (I y)) (hlen : l.length ≤ 1000000)
 (h : ∀ A c' w', Ba w' base (.slice A (l ++ [y]).length c') (l ++ [y]) → w.grownBy w' v.ownBlock → ((Value.slice A (l ++ [y]).length c').ownBlock = v.ownBlock ∨ (Value.slice A (l ++ [y]).length c').ownBlock = some w.heap.size) → wpList Tryz.prog ops Q rest (a.put o.dst (.slice A (l ++ [y]).length c')) w') :
 wpList Tryz.prog ops Q (o :: rest) a w := by
 refine wpList_plain hgd fun K hK => ?_
 obtain ⟨A, c', w', hrun, h1, h2, h3⟩ := WZ w o.type base v ad c l y hown hbase hx hlen
 unfold Oper.wp execOp
 simp only [ho, resolve, invoke, builtin, Sem.run_bind, Sem.run_pure, Result.andThen_ok, List.map_toArray, List.map_cons, List.map_nil, hs, hy, hrun]; exact hK _ _ (h A c' w' h1 h2 h3)
structure Lay (w : World) (O : Nat) (v : Value) (w' : World) : Prop where
 os : w'.os = w.os
 tape : w'.tape = w.tape
 output : w'.output = w.output
 size : w.heap.size ≤ w'.heap.size
 block : ∀ k, k < w.heap.size → k ≠ O → v.ownBlock ≠ some k → w'.heap[k]? = w.heap[k]?
theorem Lay.refl (w : World) (O : Nat) (v : Value) : Lay w O v w := ⟨rfl, rfl, rfl, Nat.le_refl _, fun _ _ _ _ => rfl⟩
theorem Lay.rd {w w' : World} {O : Nat} {v : Value} {A : Option Addr} {l : List Int} (h : Lay w O v w') (hl : Rd w A l) (hne : ∀ ad, A = some ad → ad.block ≠ O ∧ v.ownBlock ≠ some ad.block) : Rd w' A l :=
 ⟨hl.1, hl.2.1, fun hp => by
   obtain ⟨ad, e, hc⟩ := hl.2.2 hp; refine ⟨ad, e, fun j x hx => ?_⟩
   obtain ⟨c, p, hr, hcell⟩ := hc j x hx; refine ⟨c, p, hr, fun i u hu => ?_⟩
   have hx := hcell i u hu; have hb := uO ad (j * (Kd.int .i64).sz + i); rw [World.cell?_of_block (h.block _ (cell_lt hx) (by rw [hb]; exact (hne ad e).1) (by rw [hb]; exact (hne ad e).2))]; exact hx⟩
theorem Lay.more {w wr w1 w2 : World} {O : Nat} {v vk v' : Value} (h : Lay w O v wr) (hk : vk.ownBlock = v.ownBlock ∨ ∃ b, w.heap.size ≤ b ∧ vk.ownBlock = some b) (hb : Below wr.heap.size wr w1) (hg : w1.grownBy w2 vk.ownBlock) : Lay w O v (w2.setCell ⟨O, 0, none⟩ v') :=
 ⟨hg.os.trans (hb.os.trans h.os), hg.tape.trans (hb.tape.trans h.tape), hg.output.trans (hb.output.trans h.output), by simpa using Nat.le_trans h.size (Nat.le_trans hb.size hg.size), fun k h1 h2 h3 => by
   have hk1 : k < wr.heap.size := Nat.lt_of_lt_of_le h1 h.size; rw [Below.heap_setCell _ _ _ k h2, hg.block k (Nat.lt_of_lt_of_le hk1 hb.size) ?_, hb.block k hk1, h.block k h1 h2 h3]; intro e
   rcases hk with hk | ⟨b, hb1, hb2⟩
   · exact h3 (by rw [← hk, ← e])
   · rw [hb2] at e
     injection e with e
     omega⟩
theorem QT (O base : Nat) (A : Option Addr) (c : Nat) (v : Value) (l0 l : List Int) (w : World) (hO : O < base) (hb : base ≤ w.heap.size) (hl : Rd w A l) (hne : ∀ ad, A = some ad → ad.block ≠ O ∧ v.ownBlock ≠ some ad.block) (R : Row w O 46 #[v]) (ho : Ba w base v l0) (hn : l0.length + l.length ≤ 1000) :
 Calls Tryz.prog 46 #[.slice A l.length c, .pointer (some ⟨O, 0, none⟩)] w fun e w' => e = .returned (.tuple #[]) ∧ ∃ v', Row w' O 46 #[v'] ∧ Ba w' base v' (l0 ++ l) ∧ (v'.ownBlock = v.ownBlock ∨ ∃ b, w.heap.size ≤ b ∧ v'.ownBlock = some b) ∧ Lay w O v w' := by
 have HB := Lib.hid (And.intro hO (And.intro hb hn)); have HR := Lib.hid hl; have HN := Lib.hid hne; have R0 := Lib.hid R; have O0 := Lib.hid ho; clear hO hb hl hne R ho hn
 go_enter Tryz.func46, Tryz.ntmps46
 go_wp2_with fail
 go_loopw [7] (fun i wr => ∃ (k : Nat) (vk : Value), k ≤ l.length ∧ i = .int .i64 k ∧ Hid (Row wr O 46 #[vk]) ∧ Hid (Ba wr base vk (l0 ++ l.take k)) ∧ Hid (vk.ownBlock = v.ownBlock ∨ ∃ b, w.heap.size ≤ b ∧ vk.ownBlock = some b) ∧ Hid (Lay w O v wr)) (fun i _ => l.length - (intOf i).toNat)
 case atStart => exact ⟨0, v, by omega, rfl, R0, Lib.hid (by simpa using O0.out), Lib.hid (.inl rfl), Lib.hid (Lay.refl _ _ _)⟩
 case round =>
  clear R0 O0; obtain ⟨k, vk, hk, rfl, RK, OK, NK, LK⟩ := hrel
  by_cases hkl : k = l.length
  · subst hkl
    go_wp2
    go_end0
    exact ⟨rfl, vk, RK.out, by have h := OK.out; rwa [List.take_length] at h, NK.out, LK.out⟩
  have hlt : (k : Int) < l.length := by omega
  have hk0 : (0 : Int) ≤ k := by omega
  have STEP : Hid (k + 1 ≤ l.length ∧ l.length - (k + 1) < l.length - k) := Lib.hid (by omega)
  have hw64 : IntKind.i64.wrap ((k : Int) + 1) = (k : Int) + 1 := by have := HB.out.2.2; simp [IntKind.wrap, IntKind.bits, IntKind.signed]; omega
  have hrd := LK.out.rd HR.out HN.out; obtain ⟨b, off, rfl, hb, hc⟩ := hrd.cells (by omega)
  obtain ⟨x, hx⟩ : ∃ x, l[k]? = some x := ⟨l[k]'(by omega), List.getElem?_eq_getElem (by omega)⟩
  have c0 := hc k x hx; have HX := Lib.hid hx; have cr := RK.out.cell 0; have lr := RK.out.lt; clear hc hx hk hkl hrd
  obtain ⟨L, hL⟩ : ∃ L, L = l0 ++ l.take k := ⟨_, rfl⟩
  have EL : Hid (L ++ [x] = l0 ++ l.take (k + 1)) := Lib.hid (by rw [hL, List.take_add_one, HX.out]; simp); have OA : Hid (Ba (wr.alloc (.cells #[I x] 2)) base vk L) := Lib.hid (by rw [hL]; exact nU OK.out fun k' hk' => ((Below.refl wr.heap.size wr).alloc (Nat.le_refl _) _).block k' (OK.out.lt k' hk').2); have HS : Hid (base ≤ (wr.alloc (.cells #[I x] 2)).heap.size) := Lib.hid (by have := HB.out.2.1; have := LK.out.size; simp; omega); have CX : Hid ((wr.alloc (.cells #[I x] 2)).cell? ⟨wr.heap.size, 0, none⟩ = some (I x)) := Lib.hid ((Row.new wr 2 #[I x]).cell 0); have LN : Hid (L.length ≤ 1000000) := Lib.hid (by have := HB.out.2.2; have := STEP.out.1; rw [hL]; simp; omega); have NO : Hid (vk.ownBlock ≠ some O) := Lib.hid (fun e => by have := (OK.out.lt O e).1; have := HB.out.1; omega); clear hL OK
  go_wp2_with (with_reducible refine Dl _ rfl (.tmp 11) (.tmp 13) rfl base vk ⟨wr.heap.size, 0, none⟩ 1 L x rfl rfl OA.out HS.out CX.out LN.out ?_)
  intro A c' w2 h1 h2 h3; have R2 := Lib.hid (Row.grown (RK.out.alloc _) h2 (fun e => NO.out e.symm)); have O2 := Lib.hid h1; have G2 := Lib.hid h2; have N2 := Lib.hid h3; clear h1 h2 h3 cr; have cr := R2.out.cell 0; have fr := R2.out.free 0; go_wp2
  go_roundw
  case rel =>
   refine ⟨k + 1, .slice A (L.length + 1) c', STEP.out.1, by go_num, Lib.hid (R2.out.set 0 _), Lib.hid ?_, Lib.hid ?_, Lib.hid (LK.out.more NK.out ((Below.refl _ _).alloc (Nat.le_refl _) _) G2.out)⟩
   · rw [← EL.out]
     exact Go.RowKit.ownsRow_setCell_below O2.out HB.out.1 _
   · rcases N2.out with h | h
     · rw [h]
       exact NK.out
     · exact .inr ⟨_, by have := LK.out.size; omega, h⟩
  case measure =>
   have h := STEP.out.2; show l.length - ((k : Int) + 1).toNat < l.length - ((k : Int)).toNat; rw [show ((k : Int) + 1).toNat = k + 1 by omega, show ((k : Int)).toNat = k by omega]; exact h
end Go.Proofs.YtcfobekkchhbbaaGreat.EE

namespace Go.Proofs.YtcfobekkchhbbaaGreat.EE
open Go.RowKit Go.Proofs.YtcfobekkchhbbaaGreat.KK Go.Proofs.af.aU Go.Proofs.af.a_ Go.Proofs.af.bf
set_option linter.unusedVariables false
set_option linter.unusedSimpArgs false
structure Wd (w : World) (e : Es) (l : List Int) (v : Value) (wl : World) : Prop where
 out : Row wl (w.heap.size + 1) 46 #[v]
 own : Ba wl (w.heap.size + 2) v l
 est : Row wl w.heap.size 35 e.R
 be : Below w.heap.size w wl
section
variable {w wl w1 w2 : World} {e : Es} {l : List Int} {v v' : Value}
theorem Wd.size (h : Wd w e l v wl) : w.heap.size + 2 ≤ wl.heap.size := h.out.lt
theorem Wd.below (h : Wd w e l v wl) (hb : Below wl.heap.size wl w1) : Wd w e l v w1 :=
 ⟨h.out.below hb h.out.lt, nU h.own fun k hk => hb.block k (h.own.lt k hk).2, h.est.below hb h.est.lt, h.be.trans (hb.mono h.be.size)⟩
theorem Wd.alloc (h : Wd w e l v wl) (o : Obj) : Wd w e l v (wl.alloc o) := h.below ((Below.refl _ _).alloc (Nat.le_refl _) o)
theorem Wd.drew (h : Wd w e l v wl) : Wd w e l v wl.drew := h.below (Below.refl _ _).drew
theorem Wd.far (h : Wd w e l v wl) {B : Nat} {t : TypeId} {C : Array Value} (R : Row wl B t C) (hB : w.heap.size + 2 ≤ B) (hv : v.ownBlock ≠ some B) (k : Lay wl (w.heap.size + 1) v w2) : Row w2 B t C := (k.block B R.lt (by omega) hv).trans R
theorem Wd.laid (h : Wd w e l v wl) {m : List Int} (R : Row w2 (w.heap.size + 1) 46 #[v']) (ho : Ba w2 (w.heap.size + 2) v' (l ++ m)) (k : Lay wl (w.heap.size + 1) v w2) : Wd w e (l ++ m) v' w2 :=
 ⟨R, ho, (k.block _ h.est.lt (by omega) (fun e => by have := (h.own.lt _ e).1; omega)).trans h.est, ⟨k.os.trans h.be.os, k.tape.trans h.be.tape, k.output.trans h.be.output, Nat.le_trans h.be.size k.size, fun j hj => (k.block j (Nat.lt_of_lt_of_le hj h.be.size) (by omega) (fun e => by have := (h.own.lt _ e).1; omega)).trans (h.be.block j hj)⟩⟩
theorem Wd.rw (h : Wd w e l v wl) {t : Tr} (k : Rw w t) : Rw wl t := k.below h.be
theorem Wd.lays (h : Wd w e l v wl) (A : Option Addr) (c : Nat) (m : List Int) (hm : Rd wl A m) (hA : ∀ ad, A = some ad → ad.block ≠ w.heap.size + 1 ∧ v.ownBlock ≠ some ad.block) (hn : l.length + m.length ≤ 1000) :
 Calls Tryz.prog 46 #[.slice A m.length c, .pointer (some ⟨w.heap.size + 1, 0, none⟩)] wl fun x w2 => x = .returned (.tuple #[]) ∧ ∃ v', Wd w e (l ++ m) v' w2 ∧ Lay wl (w.heap.size + 1) v w2 ∧ (v'.ownBlock = v.ownBlock ∨ ∃ b, wl.heap.size ≤ b ∧ v'.ownBlock = some b) := by
 refine (QT (w.heap.size + 1) (w.heap.size + 2) A c v l m wl (by omega) h.size hm hA h.out h.own hn).mono ?_
 rintro x w2 ⟨rfl, v', h1, h2, h3, h4⟩; exact ⟨rfl, v', h.laid h1 h2 h4, h4, h3⟩
theorem Wd.low (h : Wd w e l v wl) {b : Nat} (hb : b < w.heap.size + 1) : b ≠ w.heap.size + 1 ∧ v.ownBlock ≠ some b := ⟨by omega, fun e => by have := (h.own.lt _ e).1; omega⟩
theorem Wd.free (h : Wd w e l v wl) {b : Nat} (hb : wl.heap.size ≤ b) : b ≠ w.heap.size + 1 ∧ v.ownBlock ≠ some b := ⟨by have := h.size; omega, fun e => by have := (h.own.lt _ e).2; omega⟩
end
def Tr.words (t : Tr) : List Int := (t.x ++ t.p.take 3) ++ [t.p.getD 4 0, t.p.getD 5 0, t.p.getD 8 0]
theorem Rd.take {w : World} {A : Option Addr} {l : List Int} (h : Rd w A l) (n : Nat) : Rd w A (l.take n) :=
 ⟨rfl, Nat.le_trans (show (l.take n).length ≤ l.length from by simp; omega) h.2.1, fun hp => by
   obtain ⟨ad, e, hc⟩ := h.2.2 (by simp at hp; omega); refine ⟨ad, e, fun j x hx => hc j x ?_⟩
   rw [List.getElem?_take] at hx
   split at hx
   · exact hx
   · cases hx⟩
theorem zQ {t : Tr} (h1 : t.x.length = 3) (h2 : t.p.length = 9) : t.words.length = 9 := by simp [Tr.words, h1, h2]
def Es.w0 (e : Es) : List Int := [e.q0, e.q1, e.q2, e.q3]
def Es.wd (e : Es) : Nat → List Int
 | 0 => e.w0
 | 1 => e.w0 ++ e.t0.words
 | 2 => (e.w0 ++ e.t0.words) ++ e.t1.words
 | _ => ((e.w0 ++ e.t0.words) ++ e.t1.words) ++ e.t2.words
theorem Hz (e : Es) (hl : ∀ j, j < 3 → (e.ax j).x.length = 3 ∧ (e.ax j).p.length = 9) (k : Nat) (hk : k ≤ 3) : (e.wd k).length = 4 + 9 * k := by
 have h0 : e.t0.words.length = 9 := zQ (hl 0 (by decide)).1 (hl 0 (by decide)).2; have h1 : e.t1.words.length = 9 := zQ (hl 1 (by decide)).1 (hl 1 (by decide)).2; have h2 : e.t2.words.length = 9 := zQ (hl 2 (by decide)).1 (hl 2 (by decide)).2
 obtain rfl | rfl | rfl | rfl : k = 0 ∨ k = 1 ∨ k = 2 ∨ k = 3 := by omega
 all_goals simp [Es.wd, Es.w0, h0, h1, h2]
def Es.w7 (e : Es) : List Int := [e.steps, e.fZ, e.f0, e.f1, e.f2, e.f3, if e.sat then 1 else 0]
def Es.words (e : Es) : List Int := e.wd 3 ++ e.w7
theorem JC (e : Es) (w : World) (hr : ∀ j, j < 3 → Rw w (e.ax j)) (hl : ∀ j, j < 3 → (e.ax j).x.length = 3 ∧ (e.ax j).p.length = 9) :
 Calls Tryz.prog 20 #[.agg e.R] w fun x w' => ∃ A c, x = .returned (.slice A 38 c) ∧ Ba w' (w.heap.size + 2) (.slice A 38 c) e.words ∧ Below w.heap.size w w' := by
 have HR := Lib.hid hr; have HL := Lib.hid hl; clear hr hl
 go_enter Tryz.func20, Tryz.ntmps20
 go_upto_region 3 with fail
 have W0 : Hid (Wd w e [] (.slice none 0 0) ((w.alloc (.cells e.R 35)).alloc (.cells #[.slice none 0 0] 46))) := Lib.hid ⟨by
  have h := Row.new (w.alloc (.cells e.R 35)) 46 #[.slice none 0 0]; rw [World.size_alloc] at h; exact h, World.ownsRow_nil _ _ _ _, (Row.new w 35 e.R).alloc _, ((Below.refl _ _).alloc (Nat.le_refl _) _).alloc (by simp) _⟩
 generalize ((w.alloc (.cells e.R 35)).alloc (.cells #[.slice none 0 0] 46)) = w1 at W0 ⊢
 go_wp2_with fail
 refine (W0.out.lays (some ⟨w.heap.size, 0, none⟩) 4 e.w0 (Rd.part W0.out.est (by simp [Es.w0]) (fun j x hx => ?_)) (fun ad h => by injection h with h; subst h; exact W0.out.low (Nat.lt_succ_self _)) (by simp [Es.w0])).mono ?_
 · match j, hx with
   | 0, hx => injection hx with hx; subst hx; rfl
   | 1, hx => injection hx with hx; subst hx; rfl
   | 2, hx => injection hx with hx; subst hx; rfl
   | 3, hx => injection hx with hx; subst hx; rfl
   | j + 4, hx => simp [Es.w0] at hx
 rintro x w2 ⟨rfl, v2, hw, _, _⟩; have W2 : Hid (∃ v, Wd w e (e.wd 0) v w2) := Lib.hid ⟨v2, hw⟩; clear hw W0; have RA := Lib.hid (Row.range W2.out.choose_spec.est 4 e.xU.toList (by kernel_rfl)); have i34 := Lib.hid (show (Tryz.prog.info? 32).map (·.size) = some e.xU.toList.length by kernel_rfl)
 go_wp2_with (with_reducible refine wpList_load_mid rfl 32 (.tmp 15) rfl w.heap.size 4 rfl e.xU.toList _ RA.out Tryz.underlying32 rfl i34.out ?_)
 clear RA i34; have IX : Hid ((∀ w', (Instr.index 32 (.agg e.xU) (.int .i64 0)).run Tryz.prog w' = .ok (.agg e.t0.row) w') ∧ (∀ w', (Instr.index 32 (.agg e.xU) (.int .i64 1)).run Tryz.prog w' = .ok (.agg e.t1.row) w') ∧ (∀ w', (Instr.index 32 (.agg e.xU) (.int .i64 2)).run Tryz.prog w' = .ok (.agg e.t2.row) w')) := Lib.hid ⟨fun w' => by kernel_rfl, fun w' => by kernel_rfl, fun w' => by kernel_rfl⟩
 go_loopw [17] (fun i wl => ∃ k : Nat, k ≤ 3 ∧ i = .int .i64 k ∧ Hid (∃ v, Wd w e (e.wd k) v wl)) (fun i _ => 3 - (intOf i).toNat)
 case atStart => exact ⟨0, by omega, rfl, W2⟩
 case round =>
  clear W2; obtain ⟨k, hk, rfl, W2⟩ := hrel
  obtain rfl | rfl | rfl | rfl : k = 3 ∨ k = 0 ∨ k = 1 ∨ k = 2 := by omega
  · obtain ⟨v, W⟩ := W2.out
    have W := Lib.hid W; clear W2 HR IX; have hc : ∀ i, wr.cell? ⟨w.heap.size, i, none⟩ = e.row[i]? := W.out.est.cell; have LW : Hid ((e.wd 3).length = 31) := Lib.hid (Hz e HL.out _ (by decide))
    obtain ⟨sv, hsv⟩ : ∃ s : Int, s = if e.sat then 1 else 0 := ⟨_, rfl⟩
    have W7 : Hid (e.w7 = [e.steps, e.fZ, e.f0, e.f1, e.f2, e.f3, sv]) := Lib.hid (by rw [hsv]; rfl); have SV : Hid (sv = if e.sat then 1 else 0) := Lib.hid hsv; clear hsv
    go_upto_if 51 with fail
    go_cut [7] (fun v7 wc => v7 = .int .i64 sv ∧ wc = wr)
    case first =>
     cases hs : e.sat
     · go_wp2
       go_meet
       exact ⟨by rw [SV.out, hs]; rfl, rfl⟩
     · go_wp2
       go_meet
       exact ⟨by rw [SV.out, hs]; rfl, rfl⟩
    case rest =>
     obtain ⟨rfl, rfl⟩ := hcut
     go_wp2_with fail
     have F0 : Hid (Row (wc.alloc (.cells #[I e.steps, I e.fZ, I e.f0, I e.f1, I e.f2, I e.f3, I sv] 3)) wc.heap.size 3 #[I e.steps, I e.fZ, I e.f0, I e.f1, I e.f2, I e.f3, I sv]) := Lib.hid (Row.new _ _ _); have WA : Hid (Wd w e (e.wd 3 ++ e.w7.take 0) v (wc.alloc (.cells #[I e.steps, I e.fZ, I e.f0, I e.f1, I e.f2, I e.f3, I sv] 3))) := Lib.hid (by have h := W.out.alloc (.cells #[I e.steps, I e.fZ, I e.f0, I e.f1, I e.f2, I e.f3, I sv] 3); simpa using h); have VF : Hid (v.ownBlock ≠ some wc.heap.size) := Lib.hid (W.out.free (Nat.le_refl _)).2; have FZ : Hid (w.heap.size + 2 ≤ wc.heap.size) := Lib.hid W.out.size; clear W; generalize wc.alloc (.cells #[I e.steps, I e.fZ, I e.f0, I e.f1, I e.f2, I e.f3, I sv] 3) = wa at F0 WA ⊢; generalize wc.heap.size = F at F0 VF FZ ⊢; generalize Value.int IntKind.i64 ((3 : Nat) : Int) = u17
     go_loopw [71] (fun i wl => ∃ (k : Nat) (vk : Value), k ≤ 7 ∧ i = .int .i64 k ∧ Hid (Wd w e (e.wd 3 ++ e.w7.take k) vk wl) ∧ Hid (Row wl F 3 #[I e.steps, I e.fZ, I e.f0, I e.f1, I e.f2, I e.f3, I sv]) ∧ Hid (vk.ownBlock ≠ some F)) (fun i _ => 7 - (intOf i).toNat)
     case atStart => exact ⟨0, v, by omega, rfl, WA, F0, VF⟩
     case round =>
      clear WA F0 VF; obtain ⟨k, vk, hk, rfl, W, R, V⟩ := hrel
      by_cases hkl : k = 7
      · subst hkl
        have cr := W.out.out.cell 0; go_wp2
        have hlen : (e.wd 3 ++ e.w7.take 7).length = 38 := by simp [LW.out, Es.w7]
        have ho := W.out.own; have hb := W.out.be; have ef := ho.2; rw [hlen] at ef
        rcases ef with ⟨_, h0⟩ | ⟨g, cap, cur, rfl, _⟩
        · exact absurd h0 (by decide)
        go_ret
        exact ⟨_, _, rfl, ho, hb⟩
      obtain ⟨x, hx, cx⟩ : ∃ x, e.w7[k]? = some x ∧ wr.cell? ⟨F, k, none⟩ = some (I x) := by
       rw [W7.out]
       obtain rfl | rfl | rfl | rfl | rfl | rfl | rfl : k = 0 ∨ k = 1 ∨ k = 2 ∨ k = 3 ∨ k = 4 ∨ k = 5 ∨ k = 6 := by omega
       all_goals exact ⟨_, rfl, R.out.cell _⟩
      have hlt : (k : Int) < 7 := by omega
      have hk0 : (0 : Int) ≤ k := by omega
      have STEP : Hid (k + 1 ≤ 7 ∧ 7 - (k + 1) < 7 - k) := Lib.hid (by omega)
      have hw64 : IntKind.i64.wrap ((k : Int) + 1) = (k : Int) + 1 := by simp [IntKind.wrap, IntKind.bits, IntKind.signed]; omega
      have cr := W.out.out.cell 0; have lr := W.out.out.lt; have lf := R.out.lt
      obtain ⟨L, hL⟩ : ∃ L, L = e.wd 3 ++ e.w7.take k := ⟨_, rfl⟩
      have EL : Hid (L ++ [x] = e.wd 3 ++ e.w7.take (k + 1)) := Lib.hid (by rw [hL, List.take_add_one, hx]; simp); have WA : Hid (Wd w e L vk wr) := Lib.hid (by rw [hL]; exact W.out); have OA := Lib.hid (WA.out.alloc (.cells #[I x] 2)).own; have HS : Hid (w.heap.size + 2 ≤ (wr.alloc (.cells #[I x] 2)).heap.size) := Lib.hid (WA.out.alloc _).size; have CX : Hid ((wr.alloc (.cells #[I x] 2)).cell? ⟨wr.heap.size, 0, none⟩ = some (I x)) := Lib.hid ((Row.new wr 2 #[I x]).cell 0); have LN : Hid (L.length ≤ 1000000) := Lib.hid (by rw [hL]; simp [LW.out, Es.w7]; omega); clear hL hx hk hkl W
      go_wp2_with (with_reducible refine Dl _ rfl (.tmp 75) (.tmp 77) rfl (w.heap.size + 2) vk ⟨wr.heap.size, 0, none⟩ 1 L x rfl rfl OA.out HS.out CX.out LN.out ?_)
      intro A c' w2 h1 h2 h3; have NO : Hid (vk.ownBlock ≠ some (w.heap.size + 1)) := Lib.hid (fun e => by have := (WA.out.own.lt _ e).1; omega); have R2 := Lib.hid (Row.grown (WA.out.out.alloc (.cells #[I x] 2)) h2 (fun e => NO.out e.symm)); have F2 := Lib.hid (Row.grown (R.out.alloc (.cells #[I x] 2)) h2 (fun e => V.out e.symm)); have O2 := Lib.hid h1; have G2 := Lib.hid h2; have N2 := Lib.hid h3; clear h1 h2 h3 cr; have cr := R2.out.cell 0; have fr := R2.out.free 0; go_wp2
      go_roundw
      case rel =>
       refine ⟨k + 1, .slice A (L.length + 1) c', STEP.out.1, by go_num, Lib.hid ?_, Lib.hid (F2.out.far (by show F ≠ w.heap.size + 1; have := FZ.out; omega) _), Lib.hid ?_⟩
       · rw [← EL.out]
         exact WA.out.laid (R2.out.set 0 _) (Go.RowKit.ownsRow_setCell_below O2.out (by show w.heap.size + 1 < _; omega) _) ((Lay.refl wr _ vk).more (.inl rfl) ((Below.refl _ _).alloc (Nat.le_refl _) _) G2.out)
       · intro e
         rcases N2.out with h | h
         · exact V.out (h.symm.trans e)
         · rw [h] at e; injection e with e; omega
      case measure =>
       have h := STEP.out.2; show 7 - ((k : Int) + 1).toNat < 7 - ((k : Int)).toNat; rw [show ((k : Int) + 1).toNat = k + 1 by omega, show ((k : Int)).toNat = k by omega]; exact h
  · have ix := IX.out.1
    obtain ⟨v, W⟩ := W2.out; have W := Lib.hid W; have LW : Hid ((e.wd 0).length = 4 + 9 * 0) := Lib.hid (Hz e HL.out _ (by decide)); have hx : e.t0.x.length = 3 := (HL.out 0 (by decide)).1; have hp : e.t0.p.length = 9 := (HL.out 0 (by decide)).2; have RT := HR.out 0 (by decide); change Rw w e.t0 at RT; have HX := Lib.hid (And.intro hx hp); have HT := Lib.hid RT; clear W2 hx hp RT
    go_wp2_with fail
    refine ((W.out.alloc (.cells e.t0.row 31)).lays e.t0.A e.t0.c e.t0.x ((W.out.alloc _).rw HT.out).x (fun ad h => (W.out.alloc (.cells e.t0.row 31)).low (by have := PR.Rd.blk HT.out.x ad h (by rw [HX.out.1]; decide); omega)) (by rw [LW.out, HX.out.1]; decide)).mono ?_
    rintro x w3 ⟨rfl, v3, h3, k3, n3⟩; have W3 := Lib.hid h3; have hv := (W.out.free (Nat.le_refl _)).2; have T3 := Lib.hid ((W.out.alloc (.cells e.t0.row 31)).far (Row.new wr 31 e.t0.row) W.out.size hv k3)
    have V3 : Hid (v3.ownBlock ≠ some wr.heap.size) := Lib.hid (fun e => by
     rcases n3 with h | ⟨b, hb, h⟩
     · exact hv (h.symm.trans e)
     · rw [h] at e; injection e with e; simp at hb; omega)
    have TZ : Hid (w.heap.size + 2 ≤ wr.heap.size) := Lib.hid W.out.size; clear h3 k3 n3 hv W ix; generalize wr.heap.size = T at T3 V3 TZ ⊢; obtain ⟨b, off, hB, hb, hc⟩ := HT.out.p.cells (by rw [HX.out.2]; decide); have HC := Lib.hid (And.intro hB (And.intro hb hc))
    have c5 : w3.cell? ⟨T, 5, none⟩ = some (.slice (some ⟨b, off, none⟩) 9 e.t0.d) := by
     rw [T3.out.cell 5]; show some (Value.slice e.t0.B e.t0.p.length e.t0.d) = _; rw [hB, HX.out.2]
    have hd : (9 : Int) ≤ e.t0.d := by have := HT.out.pd; rw [HX.out.2] at this; omega
    have hd3 : (3 : Int) ≤ e.t0.d := by omega
    have hdn : 3 ≤ e.t0.d := by omega
    clear hB hb hc
    go_wp2_with fail
    have Lc : Hid (Calls Tryz.prog 46 #[.slice (some ⟨b, off, none⟩) 3 e.t0.d, .pointer (some ⟨w.heap.size + 1, 0, none⟩)] w3 fun x w2 => x = .returned (.tuple #[]) ∧ ∃ v', Wd w e ((e.wd 0 ++ e.t0.x) ++ e.t0.p.take 3) v' w2 ∧ Lay w3 (w.heap.size + 1) v3 w2 ∧ (v'.ownBlock = v3.ownBlock ∨ ∃ b, w3.heap.size ≤ b ∧ v'.ownBlock = some b)) := Lib.hid (by
     have hh := W3.out.lays (some ⟨b, off, none⟩) e.t0.d (e.t0.p.take 3) (Rd.take (by rw [← HC.out.1]; exact HT.out.p.below W3.out.be) 3) (fun ad h => by injection h with h; subst h; exact W3.out.low (by have := HC.out.2.1; show b < _; omega)) (by simp [LW.out, HX.out.1, HX.out.2]); rw [show (e.t0.p.take 3).length = 3 from by simp [HX.out.2]] at hh; exact hh)
    refine Lc.out.mono ?_
    rintro x w4 ⟨rfl, v4, h4, k4, n4⟩; have W4 := Lib.hid h4; have T4 := Lib.hid (W3.out.far T3.out TZ.out V3.out k4)
    have V4 : Hid (v4.ownBlock ≠ some T) := Lib.hid (fun e => by
     rcases n4 with h | ⟨b, hb, h⟩
     · exact V3.out (h.symm.trans e)
     · rw [h] at e; injection e with e; have := T3.out.lt; omega)
    obtain ⟨p4, e4⟩ : ∃ x, x = e.t0.p.getD 4 0 := ⟨_, rfl⟩
    obtain ⟨p5, e5⟩ : ∃ x, x = e.t0.p.getD 5 0 := ⟨_, rfl⟩
    obtain ⟨p8, e8⟩ : ∃ x, x = e.t0.p.getD 8 0 := ⟨_, rfl⟩
    have EP := Lib.hid (And.intro e4 (And.intro e5 e8)); have PC : Hid (w.cell? ⟨b, off + 4, none⟩ = some (I p4) ∧ w.cell? ⟨b, off + 5, none⟩ = some (I p5) ∧ w.cell? ⟨b, off + 8, none⟩ = some (I p8)) := Lib.hid ⟨HC.out.2.2 4 p4 (by rw [e4]; exact jw (by rw [HX.out.2]; decide)), HC.out.2.2 5 p5 (by rw [e5]; exact jw (by rw [HX.out.2]; decide)), HC.out.2.2 8 p8 (by rw [e8]; exact jw (by rw [HX.out.2]; decide))⟩
    have K9 : Hid (∀ w' l' v', Wd w e l' v' w' → Row w' T 31 e.t0.row → (w'.cell? ⟨T, 5, none⟩ = some (.slice (some ⟨b, off, none⟩) 9 e.t0.d) ∧ w'.cell? ⟨b, off + 4, none⟩ = some (I p4) ∧ w'.cell? ⟨b, off + 5, none⟩ = some (I p5) ∧ w'.cell? ⟨b, off + 8, none⟩ = some (I p8))) := Lib.hid (fun w' l' v' h t => ⟨by
     rw [t.cell 5]; show some (Value.slice e.t0.B e.t0.p.length e.t0.d) = _
     rw [HC.out.1, HX.out.2], (Below.cell h.be (p := ⟨b, off + 4, none⟩) HC.out.2.1).trans PC.out.1, (Below.cell h.be (p := ⟨b, off + 5, none⟩) HC.out.2.1).trans PC.out.2.1, (Below.cell h.be (p := ⟨b, off + 8, none⟩) HC.out.2.1).trans PC.out.2.2⟩)
    have U7 : Hid (Calls Tryz.prog 46 #[.slice (some ⟨w4.heap.size, 0, none⟩) 3 3, .pointer (some ⟨w.heap.size + 1, 0, none⟩)] (w4.alloc (.cells #[I p4, I p5, I p8] 22)).drew fun x w2 => x = .returned (.tuple #[]) ∧ ∃ v', Wd w e (e.wd (0 + 1)) v' w2 ∧ Row w2 T 31 e.t0.row) := Lib.hid (by
     have hh := (W4.out.alloc (.cells #[I p4, I p5, I p8] 22)).drew.lays (some ⟨w4.heap.size, 0, none⟩) 3 [p4, p5, p8] ((Rd.new w4 22 [p4, p5, p8] (by simp)).below (Below.refl _ _).drew) (fun ad h => by injection h with h; subst h; exact W4.out.free (Nat.le_refl _)) (by simp [LW.out, HX.out.1, HX.out.2]); refine hh.mono ?_
     rintro x w5 ⟨hx5, v5, h5, k5, _⟩; refine ⟨hx5, v5, ?_, (W4.out.alloc (.cells #[I p4, I p5, I p8] 22)).drew.far (T4.out.alloc _).drew TZ.out V4.out k5⟩
     have e9 : ((e.wd 0 ++ e.t0.x) ++ e.t0.p.take 3) ++ [p4, p5, p8] = e.wd (0 + 1) := by
      rw [EP.out.1, EP.out.2.1, EP.out.2.2]
      simp [Es.wd, Tr.words]
     rw [← e9]; exact h5)
    clear h4 k4 n4 e4 e5 e8 Lc c5 W3 T3 V3
    go_upto_region 9 with fail
    go_region_held3 (fun w' => w'.cell? ⟨T, 5, none⟩ = some (.slice (some ⟨b, off, none⟩) 9 e.t0.d) ∧ w'.cell? ⟨b, off + 4, none⟩ = some (I p4) ∧ w'.cell? ⟨b, off + 5, none⟩ = some (I p5) ∧ w'.cell? ⟨b, off + 8, none⟩ = some (I p8))
     (first | with_reducible exact K9.out _ _ _ W4.out.drew T4.out.drew | with_reducible exact K9.out _ _ _ (W4.out.alloc _).drew (T4.out.alloc _).drew | with_reducible exact K9.out _ _ _ W5.out T5.out)
     ((go_at_call 46
       (with_reducible refine U7.out.mono ?_)
       rintro x w5 ⟨rfl, v5, h5, t5⟩; have W5 := Lib.hid h5; have T5 := Lib.hid t5
       clear h5 t5))
    go_wp2
    go_roundw
    case rel => exact ⟨0 + 1, by omega, by go_num, Lib.hid ⟨v5, W5.out⟩⟩
    case measure => simp [intOf]
  · have ix := IX.out.2.1
    obtain ⟨v, W⟩ := W2.out; have W := Lib.hid W; have LW : Hid ((e.wd 1).length = 4 + 9 * 1) := Lib.hid (Hz e HL.out _ (by decide)); have hx : e.t1.x.length = 3 := (HL.out 1 (by decide)).1; have hp : e.t1.p.length = 9 := (HL.out 1 (by decide)).2; have RT := HR.out 1 (by decide); change Rw w e.t1 at RT; have HX := Lib.hid (And.intro hx hp); have HT := Lib.hid RT; clear W2 hx hp RT
    go_wp2_with fail
    refine ((W.out.alloc (.cells e.t1.row 31)).lays e.t1.A e.t1.c e.t1.x ((W.out.alloc _).rw HT.out).x (fun ad h => (W.out.alloc (.cells e.t1.row 31)).low (by have := PR.Rd.blk HT.out.x ad h (by rw [HX.out.1]; decide); omega)) (by rw [LW.out, HX.out.1]; decide)).mono ?_
    rintro x w3 ⟨rfl, v3, h3, k3, n3⟩; have W3 := Lib.hid h3; have hv := (W.out.free (Nat.le_refl _)).2; have T3 := Lib.hid ((W.out.alloc (.cells e.t1.row 31)).far (Row.new wr 31 e.t1.row) W.out.size hv k3)
    have V3 : Hid (v3.ownBlock ≠ some wr.heap.size) := Lib.hid (fun e => by
     rcases n3 with h | ⟨b, hb, h⟩
     · exact hv (h.symm.trans e)
     · rw [h] at e; injection e with e; simp at hb; omega)
    have TZ : Hid (w.heap.size + 2 ≤ wr.heap.size) := Lib.hid W.out.size; clear h3 k3 n3 hv W ix; generalize wr.heap.size = T at T3 V3 TZ ⊢; obtain ⟨b, off, hB, hb, hc⟩ := HT.out.p.cells (by rw [HX.out.2]; decide); have HC := Lib.hid (And.intro hB (And.intro hb hc))
    have c5 : w3.cell? ⟨T, 5, none⟩ = some (.slice (some ⟨b, off, none⟩) 9 e.t1.d) := by
     rw [T3.out.cell 5]; show some (Value.slice e.t1.B e.t1.p.length e.t1.d) = _; rw [hB, HX.out.2]
    have hd : (9 : Int) ≤ e.t1.d := by have := HT.out.pd; rw [HX.out.2] at this; omega
    have hd3 : (3 : Int) ≤ e.t1.d := by omega
    have hdn : 3 ≤ e.t1.d := by omega
    clear hB hb hc
    go_wp2_with fail
    have Lc : Hid (Calls Tryz.prog 46 #[.slice (some ⟨b, off, none⟩) 3 e.t1.d, .pointer (some ⟨w.heap.size + 1, 0, none⟩)] w3 fun x w2 => x = .returned (.tuple #[]) ∧ ∃ v', Wd w e ((e.wd 1 ++ e.t1.x) ++ e.t1.p.take 3) v' w2 ∧ Lay w3 (w.heap.size + 1) v3 w2 ∧ (v'.ownBlock = v3.ownBlock ∨ ∃ b, w3.heap.size ≤ b ∧ v'.ownBlock = some b)) := Lib.hid (by
     have hh := W3.out.lays (some ⟨b, off, none⟩) e.t1.d (e.t1.p.take 3) (Rd.take (by rw [← HC.out.1]; exact HT.out.p.below W3.out.be) 3) (fun ad h => by injection h with h; subst h; exact W3.out.low (by have := HC.out.2.1; show b < _; omega)) (by simp [LW.out, HX.out.1, HX.out.2]); rw [show (e.t1.p.take 3).length = 3 from by simp [HX.out.2]] at hh; exact hh)
    refine Lc.out.mono ?_
    rintro x w4 ⟨rfl, v4, h4, k4, n4⟩; have W4 := Lib.hid h4; have T4 := Lib.hid (W3.out.far T3.out TZ.out V3.out k4)
    have V4 : Hid (v4.ownBlock ≠ some T) := Lib.hid (fun e => by
     rcases n4 with h | ⟨b, hb, h⟩
     · exact V3.out (h.symm.trans e)
     · rw [h] at e; injection e with e; have := T3.out.lt; omega)
    obtain ⟨p4, e4⟩ : ∃ x, x = e.t1.p.getD 4 0 := ⟨_, rfl⟩
    obtain ⟨p5, e5⟩ : ∃ x, x = e.t1.p.getD 5 0 := ⟨_, rfl⟩
    obtain ⟨p8, e8⟩ : ∃ x, x = e.t1.p.getD 8 0 := ⟨_, rfl⟩
    have EP := Lib.hid (And.intro e4 (And.intro e5 e8)); have PC : Hid (w.cell? ⟨b, off + 4, none⟩ = some (I p4) ∧ w.cell? ⟨b, off + 5, none⟩ = some (I p5) ∧ w.cell? ⟨b, off + 8, none⟩ = some (I p8)) := Lib.hid ⟨HC.out.2.2 4 p4 (by rw [e4]; exact jw (by rw [HX.out.2]; decide)), HC.out.2.2 5 p5 (by rw [e5]; exact jw (by rw [HX.out.2]; decide)), HC.out.2.2 8 p8 (by rw [e8]; exact jw (by rw [HX.out.2]; decide))⟩
    have K9 : Hid (∀ w' l' v', Wd w e l' v' w' → Row w' T 31 e.t1.row → (w'.cell? ⟨T, 5, none⟩ = some (.slice (some ⟨b, off, none⟩) 9 e.t1.d) ∧ w'.cell? ⟨b, off + 4, none⟩ = some (I p4) ∧ w'.cell? ⟨b, off + 5, none⟩ = some (I p5) ∧ w'.cell? ⟨b, off + 8, none⟩ = some (I p8))) := Lib.hid (fun w' l' v' h t => ⟨by
     rw [t.cell 5]; show some (Value.slice e.t1.B e.t1.p.length e.t1.d) = _
     rw [HC.out.1, HX.out.2], (Below.cell h.be (p := ⟨b, off + 4, none⟩) HC.out.2.1).trans PC.out.1, (Below.cell h.be (p := ⟨b, off + 5, none⟩) HC.out.2.1).trans PC.out.2.1, (Below.cell h.be (p := ⟨b, off + 8, none⟩) HC.out.2.1).trans PC.out.2.2⟩)
    have U7 : Hid (Calls Tryz.prog 46 #[.slice (some ⟨w4.heap.size, 0, none⟩) 3 3, .pointer (some ⟨w.heap.size + 1, 0, none⟩)] (w4.alloc (.cells #[I p4, I p5, I p8] 22)).drew fun x w2 => x = .returned (.tuple #[]) ∧ ∃ v', Wd w e (e.wd (1 + 1)) v' w2 ∧ Row w2 T 31 e.t1.row) := Lib.hid (by
     have hh := (W4.out.alloc (.cells #[I p4, I p5, I p8] 22)).drew.lays (some ⟨w4.heap.size, 0, none⟩) 3 [p4, p5, p8] ((Rd.new w4 22 [p4, p5, p8] (by simp)).below (Below.refl _ _).drew) (fun ad h => by injection h with h; subst h; exact W4.out.free (Nat.le_refl _)) (by simp [LW.out, HX.out.1, HX.out.2]); refine hh.mono ?_
     rintro x w5 ⟨hx5, v5, h5, k5, _⟩; refine ⟨hx5, v5, ?_, (W4.out.alloc (.cells #[I p4, I p5, I p8] 22)).drew.far (T4.out.alloc _).drew TZ.out V4.out k5⟩
     have e9 : ((e.wd 1 ++ e.t1.x) ++ e.t1.p.take 3) ++ [p4, p5, p8] = e.wd (1 + 1) := by
      rw [EP.out.1, EP.out.2.1, EP.out.2.2]
      simp [Es.wd, Tr.words]
     rw [← e9]; exact h5)
    clear h4 k4 n4 e4 e5 e8 Lc c5 W3 T3 V3
    go_upto_region 9 with fail
    go_region_held3 (fun w' => w'.cell? ⟨T, 5, none⟩ = some (.slice (some ⟨b, off, none⟩) 9 e.t1.d) ∧ w'.cell? ⟨b, off + 4, none⟩ = some (I p4) ∧ w'.cell? ⟨b, off + 5, none⟩ = some (I p5) ∧ w'.cell? ⟨b, off + 8, none⟩ = some (I p8))
     (first | with_reducible exact K9.out _ _ _ W4.out.drew T4.out.drew | with_reducible exact K9.out _ _ _ (W4.out.alloc _).drew (T4.out.alloc _).drew | with_reducible exact K9.out _ _ _ W5.out T5.out)
     ((go_at_call 46
       (with_reducible refine U7.out.mono ?_)
       rintro x w5 ⟨rfl, v5, h5, t5⟩; have W5 := Lib.hid h5; have T5 := Lib.hid t5
       clear h5 t5))
    go_wp2
    go_roundw
    case rel => exact ⟨1 + 1, by omega, by go_num, Lib.hid ⟨v5, W5.out⟩⟩
    case measure => simp [intOf]
  · have ix := IX.out.2.2
    obtain ⟨v, W⟩ := W2.out; have W := Lib.hid W; have LW : Hid ((e.wd 2).length = 4 + 9 * 2) := Lib.hid (Hz e HL.out _ (by decide)); have hx : e.t2.x.length = 3 := (HL.out 2 (by decide)).1; have hp : e.t2.p.length = 9 := (HL.out 2 (by decide)).2; have RT := HR.out 2 (by decide); change Rw w e.t2 at RT; have HX := Lib.hid (And.intro hx hp); have HT := Lib.hid RT; clear W2 hx hp RT
    go_wp2_with fail
    refine ((W.out.alloc (.cells e.t2.row 31)).lays e.t2.A e.t2.c e.t2.x ((W.out.alloc _).rw HT.out).x (fun ad h => (W.out.alloc (.cells e.t2.row 31)).low (by have := PR.Rd.blk HT.out.x ad h (by rw [HX.out.1]; decide); omega)) (by rw [LW.out, HX.out.1]; decide)).mono ?_
    rintro x w3 ⟨rfl, v3, h3, k3, n3⟩; have W3 := Lib.hid h3; have hv := (W.out.free (Nat.le_refl _)).2; have T3 := Lib.hid ((W.out.alloc (.cells e.t2.row 31)).far (Row.new wr 31 e.t2.row) W.out.size hv k3)
    have V3 : Hid (v3.ownBlock ≠ some wr.heap.size) := Lib.hid (fun e => by
     rcases n3 with h | ⟨b, hb, h⟩
     · exact hv (h.symm.trans e)
     · rw [h] at e; injection e with e; simp at hb; omega)
    have TZ : Hid (w.heap.size + 2 ≤ wr.heap.size) := Lib.hid W.out.size; clear h3 k3 n3 hv W ix; generalize wr.heap.size = T at T3 V3 TZ ⊢; obtain ⟨b, off, hB, hb, hc⟩ := HT.out.p.cells (by rw [HX.out.2]; decide); have HC := Lib.hid (And.intro hB (And.intro hb hc))
    have c5 : w3.cell? ⟨T, 5, none⟩ = some (.slice (some ⟨b, off, none⟩) 9 e.t2.d) := by
     rw [T3.out.cell 5]; show some (Value.slice e.t2.B e.t2.p.length e.t2.d) = _; rw [hB, HX.out.2]
    have hd : (9 : Int) ≤ e.t2.d := by have := HT.out.pd; rw [HX.out.2] at this; omega
    have hd3 : (3 : Int) ≤ e.t2.d := by omega
    have hdn : 3 ≤ e.t2.d := by omega
    clear hB hb hc
    go_wp2_with fail
    have Lc : Hid (Calls Tryz.prog 46 #[.slice (some ⟨b, off, none⟩) 3 e.t2.d, .pointer (some ⟨w.heap.size + 1, 0, none⟩)] w3 fun x w2 => x = .returned (.tuple #[]) ∧ ∃ v', Wd w e ((e.wd 2 ++ e.t2.x) ++ e.t2.p.take 3) v' w2 ∧ Lay w3 (w.heap.size + 1) v3 w2 ∧ (v'.ownBlock = v3.ownBlock ∨ ∃ b, w3.heap.size ≤ b ∧ v'.ownBlock = some b)) := Lib.hid (by
     have hh := W3.out.lays (some ⟨b, off, none⟩) e.t2.d (e.t2.p.take 3) (Rd.take (by rw [← HC.out.1]; exact HT.out.p.below W3.out.be) 3) (fun ad h => by injection h with h; subst h; exact W3.out.low (by have := HC.out.2.1; show b < _; omega)) (by simp [LW.out, HX.out.1, HX.out.2]); rw [show (e.t2.p.take 3).length = 3 from by simp [HX.out.2]] at hh; exact hh)
    refine Lc.out.mono ?_
    rintro x w4 ⟨rfl, v4, h4, k4, n4⟩; have W4 := Lib.hid h4; have T4 := Lib.hid (W3.out.far T3.out TZ.out V3.out k4)
    have V4 : Hid (v4.ownBlock ≠ some T) := Lib.hid (fun e => by
     rcases n4 with h | ⟨b, hb, h⟩
     · exact V3.out (h.symm.trans e)
     · rw [h] at e; injection e with e; have := T3.out.lt; omega)
    obtain ⟨p4, e4⟩ : ∃ x, x = e.t2.p.getD 4 0 := ⟨_, rfl⟩
    obtain ⟨p5, e5⟩ : ∃ x, x = e.t2.p.getD 5 0 := ⟨_, rfl⟩
    obtain ⟨p8, e8⟩ : ∃ x, x = e.t2.p.getD 8 0 := ⟨_, rfl⟩
    have EP := Lib.hid (And.intro e4 (And.intro e5 e8)); have PC : Hid (w.cell? ⟨b, off + 4, none⟩ = some (I p4) ∧ w.cell? ⟨b, off + 5, none⟩ = some (I p5) ∧ w.cell? ⟨b, off + 8, none⟩ = some (I p8)) := Lib.hid ⟨HC.out.2.2 4 p4 (by rw [e4]; exact jw (by rw [HX.out.2]; decide)), HC.out.2.2 5 p5 (by rw [e5]; exact jw (by rw [HX.out.2]; decide)), HC.out.2.2 8 p8 (by rw [e8]; exact jw (by rw [HX.out.2]; decide))⟩
    have K9 : Hid (∀ w' l' v', Wd w e l' v' w' → Row w' T 31 e.t2.row → (w'.cell? ⟨T, 5, none⟩ = some (.slice (some ⟨b, off, none⟩) 9 e.t2.d) ∧ w'.cell? ⟨b, off + 4, none⟩ = some (I p4) ∧ w'.cell? ⟨b, off + 5, none⟩ = some (I p5) ∧ w'.cell? ⟨b, off + 8, none⟩ = some (I p8))) := Lib.hid (fun w' l' v' h t => ⟨by
     rw [t.cell 5]; show some (Value.slice e.t2.B e.t2.p.length e.t2.d) = _
     rw [HC.out.1, HX.out.2], (Below.cell h.be (p := ⟨b, off + 4, none⟩) HC.out.2.1).trans PC.out.1, (Below.cell h.be (p := ⟨b, off + 5, none⟩) HC.out.2.1).trans PC.out.2.1, (Below.cell h.be (p := ⟨b, off + 8, none⟩) HC.out.2.1).trans PC.out.2.2⟩)
    have U7 : Hid (Calls Tryz.prog 46 #[.slice (some ⟨w4.heap.size, 0, none⟩) 3 3, .pointer (some ⟨w.heap.size + 1, 0, none⟩)] (w4.alloc (.cells #[I p4, I p5, I p8] 22)).drew fun x w2 => x = .returned (.tuple #[]) ∧ ∃ v', Wd w e (e.wd (2 + 1)) v' w2 ∧ Row w2 T 31 e.t2.row) := Lib.hid (by
     have hh := (W4.out.alloc (.cells #[I p4, I p5, I p8] 22)).drew.lays (some ⟨w4.heap.size, 0, none⟩) 3 [p4, p5, p8] ((Rd.new w4 22 [p4, p5, p8] (by simp)).below (Below.refl _ _).drew) (fun ad h => by injection h with h; subst h; exact W4.out.free (Nat.le_refl _)) (by simp [LW.out, HX.out.1, HX.out.2]); refine hh.mono ?_
     rintro x w5 ⟨hx5, v5, h5, k5, _⟩; refine ⟨hx5, v5, ?_, (W4.out.alloc (.cells #[I p4, I p5, I p8] 22)).drew.far (T4.out.alloc _).drew TZ.out V4.out k5⟩
     have e9 : ((e.wd 2 ++ e.t2.x) ++ e.t2.p.take 3) ++ [p4, p5, p8] = e.wd (2 + 1) := by
      rw [EP.out.1, EP.out.2.1, EP.out.2.2]
      simp [Es.wd, Tr.words]
     rw [← e9]; exact h5)
    clear h4 k4 n4 e4 e5 e8 Lc c5 W3 T3 V3
    go_upto_region 9 with fail
    go_region_held3 (fun w' => w'.cell? ⟨T, 5, none⟩ = some (.slice (some ⟨b, off, none⟩) 9 e.t2.d) ∧ w'.cell? ⟨b, off + 4, none⟩ = some (I p4) ∧ w'.cell? ⟨b, off + 5, none⟩ = some (I p5) ∧ w'.cell? ⟨b, off + 8, none⟩ = some (I p8))
     (first | with_reducible exact K9.out _ _ _ W4.out.drew T4.out.drew | with_reducible exact K9.out _ _ _ (W4.out.alloc _).drew (T4.out.alloc _).drew | with_reducible exact K9.out _ _ _ W5.out T5.out)
     ((go_at_call 46
       (with_reducible refine U7.out.mono ?_)
       rintro x w5 ⟨rfl, v5, h5, t5⟩; have W5 := Lib.hid h5; have T5 := Lib.hid t5
       clear h5 t5))
    go_wp2
    go_roundw
    case rel => exact ⟨2 + 1, by omega, by go_num, Lib.hid ⟨v5, W5.out⟩⟩
    case measure => simp [intOf]
end Go.Proofs.YtcfobekkchhbbaaGreat.EE

namespace Go.Proofs.YtcfobekkchhbbaaGreat.EE
open Go.RowKit Go.Proofs.YtcfobekkchhbbaaGreat.KK Go.Proofs.af.aU Go.Proofs.af.a_ Go.Proofs.af.bf
set_option linter.unusedVariables false
set_option linter.unusedSimpArgs false
def XX : Cf := ⟨2097152, 16777216, 262144, 16777216, 16777216, 268435456⟩
def sm0 : Sm := ⟨true, 0, 0, 0, 0, 0, 0, false, 0, false, 0, 0, 0⟩
def en0 : En := ⟨16777216, 0, 0, 0, [0, 0, 0], oU, [0, 0, 0], oU, [0, 0, 0], oU, 0, 0, 0, 0, 0, 0, false⟩
theorem Eo : Gd en0 := by
 refine ⟨fun j hj => ?_, fun j hj => ?_, by decide, by decide, by decide, by decide, fun k hk => ?_, fun k hk => ?_⟩
 · obtain rfl | rfl | rfl : j = 0 ∨ j = 1 ∨ j = 2 := by omega
   all_goals rfl
 · obtain rfl | rfl | rfl : j = 0 ∨ j = 1 ∨ j = 2 := by omega
   all_goals exact PR.l7 _
 · obtain rfl | rfl | rfl | rfl : k = 0 ∨ k = 1 ∨ k = 2 ∨ k = 3 := by omega
   all_goals decide
 · obtain rfl | rfl | rfl | rfl : k = 0 ∨ k = 1 ∨ k = 2 ∨ k = 3 := by omega
   all_goals decide
def SB : En := En.ahead XX en0 (a3 0 0 0)
theorem PL : SB.x0 = [0, 0, 0] ∧ SB.x1 = [0, 0, 0] ∧ SB.x2 = [0, 0, 0] ∧ SB.sat = false := by decide +kernel
theorem LU : UO XX en0 sm0 (SB.cnt true) :=
 Vr XX en0 sm0 en0 SB (a3 0 0 0) Eo (by decide) (by decide) (.inl ⟨rfl, rfl, rfl⟩) ⟨fun _ => rfl, fun h => by cases h⟩ Eo.ahead
end Go.Proofs.YtcfobekkchhbbaaGreat.EE

namespace Go.Proofs.YtcfobekkchhbbaaGreat.OG
open Go Go.RowKit Go.Proofs.YtcfobekkchhbbaaGreat.KK
section
variable {P : Program} {ops : Array Oper} {Q : Exit → Act → World → Prop}
def upd (l : Nat → Bool) (i : Nat) : Nat → Bool := fun k => if k = i then true else l k
def deps (o : Oper) (l : Nat → Bool) : Prop := ∀ e ∈ o.after.toList, Region.binds .any e = true → l e.on = true
def Closed (ops : Array Oper) (l : Nat → Bool) : Prop := ∀ j o, ops[j]? = some o → l j = true → deps o l
theorem Closed.off {l : Nat → Bool} (hc : Closed ops l) (j k : Nat) (h : ((ops[j]?).map fun o => o.after.toList.any (fun e => Region.binds .any e && decide (e.on = k))) = some true) (h0 : l k = false) : l j = false := by
 cases hj : l j with
 | false => rfl
 | true =>
   exfalso
   cases ho : ops[j]? with
   | none => rw [ho] at h; cases h
   | some o =>
     rw [ho] at h; simp only [Option.map_some, Option.some.injEq, List.any_eq_true, Bool.and_eq_true, decide_eq_true_eq] at h; obtain ⟨e, he, h2, rfl⟩ := h; have := hc j o ho hj e he h2; rw [h0] at this
     cases this
def Steps (P : Program) (ops : Array Oper) (Q : Exit → Act → World → Prop) (J : (Nat → Bool) → Act → World → Prop) : Nat → List Oper → Prop
 | _, [] => True
 | k, o :: r => (∀ l a w, J l a w → Closed ops l → l k = false → deps o l → (Region.wanted o (yielded ops a.tmps) = true ∧ o.wp P a w (fun a' w' => J (upd l k) a' w') Q) ∨ (Region.wanted o (yielded ops a.tmps) = false ∧ J (upd l k) (a.put o.dst undef) w)) ∧ Steps P ops Q J (k + 1) r
theorem deps.get {o : Oper} {l : Nat → Bool} (h : deps o l) (k : Nat) (hk : o.after.toList.any (fun e => Region.binds .any e && decide (e.on = k)) = true) : l k = true := by
 rw [List.any_eq_true] at hk; obtain ⟨e, he, h2⟩ := hk; simp only [Bool.and_eq_true, decide_eq_true_eq] at h2; obtain ⟨h3, rfl⟩ := h2; exact h e he h3
theorem Steps.nil {J : (Nat → Bool) → Act → World → Prop} {k : Nat} : Steps P ops Q J k [] := trivial
theorem Steps.cons {J : (Nat → Bool) → Act → World → Prop} {k : Nat} {o : Oper} {r : List Oper} (hg : o.guard = none)
 (h : ∀ l a w (K : Act → World → Prop), Hid (∀ a' w', J (upd l k) a' w' → K a' w') → J l a w → Closed ops l → l k = false → deps o l → o.wp P a w K Q) (hr : Steps P ops Q J (k + 1) r) : Steps P ops Q J k (o :: r) :=
 ⟨fun l a w hJ hc hl hd => .inl ⟨by simp [Region.wanted, hg], h l a w _ (Lib.hid fun _ _ h => h) hJ hc hl hd⟩, hr⟩
theorem Steps.get {J : (Nat → Bool) → Act → World → Prop} : ∀ {r : List Oper} {k : Nat}, Steps P ops Q J k r → ∀ i o, r[i]? = some o →
 ∀ l a w, J l a w → Closed ops l → l (k + i) = false → deps o l → (Region.wanted o (yielded ops a.tmps) = true ∧ o.wp P a w (fun a' w' => J (upd l (k + i)) a' w') Q) ∨ (Region.wanted o (yielded ops a.tmps) = false ∧ J (upd l (k + i)) (a.put o.dst undef) w)
 | [], _, _, i, o, h => by simp at h
 | x :: r, k, hs, 0, o, h => by
   simp at h; subst h; exact hs.1
 | x :: r, k, hs, i + 1, o, h => by
   have := hs.2.get i o (by simpa using h)
   rwa [show k + 1 + i = k + (i + 1) from by omega] at this
def back (ops : Array Oper) : Bool := (List.range ops.size).all fun i => ((ops[i]?).map fun o => o.after.toList.all fun e => !Region.binds .any e || decide (e.on < i)).getD true
theorem QE {listed : Array Bool} (hb : back ops = true) (hsz : listed.size = ops.size) (hr : Region.ready .any ops listed = []) : ∀ n i, i < n → i < ops.size → listed.getD i false = true := by
 intro n
 induction n with
 | zero => intro i h; omega
 | succ n ih =>
   intro i hi ho
   cases hc : listed.getD i false with
   | true => rfl
   | false =>
     exfalso
     have hm : i ∈ Region.ready .any ops listed := by
      refine mem_ready.2 ⟨?_, ops[i], by simp [ho], fun e he hbi => ?_⟩
      · have hlt : i < listed.size := by omega
        simpa [hlt] using hc
      · unfold back at hb
        rw [List.all_eq_true] at hb; have h1 := hb i (by simpa using ho); rw [show ops[i]? = some ops[i] from by simp [ho]] at h1; simp only [Option.map_some, Option.getD_some, List.all_eq_true, Bool.or_eq_true, Bool.not_eq_true', decide_eq_true_eq] at h1; have h2 := (h1 e (by simpa using he)).resolve_left (by simp [hbi]); exact ih e.on (by omega) (by omega)
     rw [hr] at hm
     cases hm
theorem count_set : ∀ (l : List Bool) (i : Nat), l[i]? = some false → (l.set i true).count false + 1 = l.count false
 | [], i, h => by simp at h
 | b :: l, 0, h => by simp at h; subst h; simp
 | b :: l, i + 1, h => by
   have := count_set l i (by simpa using h)
   cases b <;> simp <;> omega
theorem W_ (J : (Nat → Bool) → Act → World → Prop) (hb : back ops = true) (hs : Steps P ops Q J 0 ops.toList)
 (he : ∀ l a w, J l a w → (∀ i, i < ops.size → l i = true) → Q .normal a w) :
 ∀ (fuel : Nat) (listed : Array Bool) (a : Act) (w : World), listed.size = ops.size → listed.toList.count false ≤ fuel → Closed ops (fun k => listed.getD k false) → J (fun k => listed.getD k false) a w → wpAny P .any ops Q fuel listed a w := by
 intro fuel
 induction fuel with
 | zero =>
   intro listed a w hsz hc hcl hJ
   have hall : ∀ i, i < ops.size → listed.getD i false = true := by
    intro i hi
    cases hx : listed.getD i false with
    | true => rfl
    | false =>
      exfalso
      have hlt : i < listed.size := by omega
      have hm : false ∈ listed.toList := by
       have : listed[i] = false := by simpa [hlt] using hx
       rw [← this]; simp
      have := List.count_pos_iff.2 hm; omega
   refine ⟨?_, he _ _ _ hJ hall⟩
   cases hr : Region.ready .any ops listed with
   | nil => rfl
   | cons i t =>
     have hm : i ∈ Region.ready .any ops listed := by rw [hr]; simp
     obtain ⟨h0, o, ho, _⟩ := mem_ready.1 hm; have hlt := (Array.getElem?_eq_some_iff.1 ho).1; have := hall i hlt
     have hlt' : i < listed.size := by omega
     simp [hlt'] at h0 this
     rw [h0] at this; cases this
 | succ fuel ih =>
   intro listed a w hsz hc hcl hJ; refine ⟨fun hr => he _ _ _ hJ fun i hi => QE hb hsz hr (i + 1) i (by omega) hi, fun i hi => ?_⟩
   obtain ⟨h0, o, ho, hd⟩ := mem_ready.1 hi; have hlt := (Array.getElem?_eq_some_iff.1 ho).1
   have hlt' : i < listed.size := by omega
   have h0' : listed.getD i false = false := by simpa [hlt'] using h0
   have hst := hs.get i o (by simpa using ho) (fun k => listed.getD k false) a w hJ hcl (by simpa using h0') (fun e he hbi => hd e (by simpa using he) hbi)
   have hup : upd (fun k => listed.getD k false) (0 + i) = fun k => (listed.setIfInBounds i true).getD k false := by
    funext k
    unfold upd
    simp only [Nat.zero_add]
    split
    · rename_i h; subst h; simp [hlt']
    · rename_i h; simp [Array.getD_eq_getD_getElem?, Array.getElem?_setIfInBounds_ne (Ne.symm h)]
   have hnext : ∀ a' w', J (upd (fun k => listed.getD k false) (0 + i)) a' w' → wpAny P .any ops Q fuel (listed.setIfInBounds i true) a' w' := by
    intro a' w' h; rw [hup] at h; refine ih _ _ _ (by simpa using hsz) ?_ ?_ h
    rotate_left
    · rw [← hup]
      intro j o' ho' hj e he hbi
      by_cases hji : j = 0 + i
      · have : o' = o := by
         rw [hji, Nat.zero_add, ho] at ho'
         injection ho' with ho'
         exact ho'.symm
        subst this
        unfold upd
        split
        · rfl
        · exact hd e (by simpa using he) hbi
      · have hj' : listed.getD j false = true := by
         unfold upd at hj
         rwa [if_neg hji] at hj
        unfold upd
        split
        · rfl
        · exact hcl j o' ho' hj' e he hbi
    have : listed.toList[i]? = some false := by
     have : listed[i] = false := by simpa [hlt'] using h0'
     simp [hlt', this]
    have := count_set _ _ this
    simp
    omega
   unfold wpOp
   simp only [ho]
   rcases hst with ⟨hw, h⟩ | ⟨hw, h⟩
   · simp only [hw, if_true]
     exact .inl (Oper.wp_mono hnext h)
   · simp only [hw, Bool.false_eq_true, if_false]
     exact hnext _ _ h
theorem uw {id : Nat} {a : Act} {w : World} (hm : P.follows .mixedOrders = true) (J : (Nat → Bool) → Act → World → Prop) (hb : back ops = true)
 (h0 : J (fun _ => false) a w.drew) (hs : Steps P ops Q J 0 ops.toList) (he : ∀ l a w, J l a w → (∀ i, i < ops.size → l i = true) → Q .normal a w) : (Code.region id ops true).wp P Q a w := by
 refine wp_region_any hm ?_
 refine W_ J hb hs he _ _ _ _ (by simp) ?_ ?_ ?_
 · rw [Array.toList_replicate, List.count_replicate]; simp
 · intro j o _ hj
   exfalso
   have : (Array.replicate ops.size false).getD j false = false := by simp [Array.getD_eq_getD_getElem?, Array.getElem?_replicate]; split <;> rfl
   simp only [this] at hj
   cases hj
 · rw [show (fun k => (Array.replicate ops.size false).getD k false) = fun _ => false from by funext k; simp [Array.getD_eq_getD_getElem?, Array.getElem?_replicate]; split <;> rfl]
   exact h0
end
theorem sQ {P : Program} {ops : Array Oper} {rest : List Oper} {op : Oper} {a : Act} {w : World} {Q : Exit → Act → World → Prop} (hw : Region.wanted op (yielded ops a.tmps) = true) (ty : TypeId) (x : Operand) (ho : op.op = .load ty x)
 (b o : Nat) (hx : a.eval x = .pointer (some ⟨b, o, none⟩)) (cs : List Value) (d : TypeDesc) (hc : w.rangeAt b o cs) (hu : P.underlying ty = some d) (hd : d.isRow = true) (hi : (P.info? ty).map (·.size) = some cs.length)
 (h : wpList P ops Q rest (a.put op.dst (.agg cs.toArray)) w) : wpList P ops Q (op :: rest) a w :=
 wpList_step fun K hK => by rw [if_pos hw]; exact wp_load_mid ty x ho b o hx cs d hc hu hd hi (hK _ _ h)
theorem xX {g : Nat} : ∀ (vs : List Value) (o : Nat) (w : World) (k : Nat), k ≠ g → (w.setCells g o vs).heap[k]? = w.heap[k]?
 | [], _, _, _, _ => rfl
 | v :: r, o, w, k, hk => by
   rw [World.setCells, xX r (o + 1) _ k hk]; exact Below.heap_setCell w ⟨g, o, none⟩ v k hk
def xR (n : Nat) (w : World) (on : Bool) (b : Nat) (t : TypeId) (cs : Array Value) : Prop := on = true → n ≤ b ∧ Row w b t cs
section
variable {n b : Nat} {w w' : World} {on : Bool} {t : TypeId} {cs : Array Value}
theorem xR.off : xR n w false b t cs := fun h => by cases h
theorem xR.new (h : n ≤ w.heap.size) : xR n (w.alloc (.cells cs t)) true w.heap.size t cs := fun _ => ⟨h, Row.new w t cs⟩
theorem xR.alloc (h : xR n w on b t cs) (o : Obj) : xR n (w.alloc o) on b t cs := fun e => ⟨(h e).1, (h e).2.alloc o⟩
theorem xR.below (h : xR n w on b t cs) (hb : Below w.heap.size w w') : xR n w' on b t cs := fun e => ⟨(h e).1, (h e).2.below hb (h e).2.lt⟩
theorem xR.bound (h : xR n w on b t cs) : on = true → b < w.heap.size := fun e => (h e).2.lt
theorem xR.row (h : xR n w true b t cs) : Row w b t cs := (h rfl).2
theorem xR.le (h : xR n w true b t cs) : n ≤ b := (h rfl).1
theorem xR.ne (h : xR n w on b t cs) : on = true → b ≠ w.heap.size := fun e => by have := (h e).2.lt; omega
theorem xR.cells (h : xR n w on b t cs) {g o : Nat} (hp : on = true → b ≠ g) (vs : List Value) : xR n (w.setCells g o vs) on b t cs := fun e => ⟨(h e).1, (xX vs o w b (hp e)).trans (h e).2⟩
end
end Go.Proofs.YtcfobekkchhbbaaGreat.OG

