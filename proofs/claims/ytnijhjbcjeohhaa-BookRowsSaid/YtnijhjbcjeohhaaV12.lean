import Derived.RangeFuncNested
import Derived.RangeFuncBound
import Derived.RangeFuncCalls
import Derived.RangeFuncLeaves
import Derived.OwnWalkIn
import Derived.TacticsInMore
import Derived.Maps.AppendAt
import Derived.Maps.OwnIn
import Derived.RangeFuncBox
import Derived.Test.YtnijhjbcjeohhaaV11
import Derived.Shelf.Abstract
/- Joined and thinned by a program of this session's own (wip/pack2.py) out of its texts (wip/ of its repo); parts were laid by its own program (wip/print-patch.py over the kit's print) out of the translation; Lean checks all. -/
set_option maxRecDepth 100000
set_option maxHeartbeats 4000000
namespace Go.Proofs.Ytnijhjbcjeohhaa.BB
open Go.RowKit Go.Proofs.Ytnijhjbcjeohhaa.KK Go.Proofs.Ytnijhjbcjeohhaa.EE Go.Proofs.af.aA Go.Proofs.af.aN Go.Proofs.af.aP
set_option linter.unusedVariables false
set_option linter.unusedSimpArgs false
section
variable {F : Fence} {n : Nat} {P : Program} {ops : Array Oper} {rest : List Oper} {op : Oper} {a : Act} {w : World} {Q : Exit → Act → World → Prop}
theorem qM (hg : op.guard = none) (ty : TypeId) (x : Operand) (ho : op.op = .load ty x)
 (b o : Nat) (hx : a.eval x = .pointer (some ⟨b, o, none⟩)) (cs : List Value) (d : TypeDesc) (hc : w.rangeAt b o cs) (hu : P.underlying ty = some d) (hd : d.isRow = true) (hi : (P.info? ty).map (·.size) = some cs.length)
 (h : wpListIn F n P ops Q rest (a.put op.dst (.agg cs.toArray)) w) : wpListIn F n P ops Q (op :: rest) a w := by
 refine wpListIn_plain hg fun K hK => ?_
 have h2 : op.wp P a w K Q := wp_load_mid ty x ho b o hx cs d hc hu hd hi (hK _ _ h)
 unfold Oper.wp at h2
 unfold Oper.wpIn
 refine ⟨by simp [Oper.about, ho], ?_⟩
 rw [Oper.semAt_plain F _ _ (by rw [ho]; intro c hc'; cases hc')]
 unfold execOp at h2 ⊢
 simp only [ho, hx, Instr.loadAt, Instr.sureAddr, Sem.run_bind, Sem.run_pure, Result.andThen_ok, run_loadVar_mid w b o ty cs d hc hu hd hi] at h2 ⊢
 exact h2
theorem lK (hg : op.guard = none) (ty : TypeId) (x y : Operand) (ho : op.op = .store ty x y)
 (b o : Nat) (cells : Array Value) (hx : a.eval x = .pointer (some ⟨b, o, none⟩)) (hy : a.eval y = .agg cells)
 (ht : w.there b o cells.size) (hi : (P.info? ty).map (·.size) = some cells.size) (h1 : cells.all (·.oneCell') = true)
 (h : wpListIn F n P ops Q rest (a.put op.dst undef) (w.setCells b o cells.toList)) : wpListIn F n P ops Q (op :: rest) a w := by
 refine wpListIn_plain hg fun K hK => ?_
 have h2 : op.wp P a w K Q := wp_store_mid ty x y ho b o cells hx hy ht hi h1 (hK _ _ h)
 unfold Oper.wp at h2
 unfold Oper.wpIn
 refine ⟨by simp [Oper.about, ho], ?_⟩
 rw [Oper.semAt_plain F _ _ (by rw [ho]; intro c hc'; cases hc')]
 unfold execOp at h2 ⊢
 simp only [ho, hx, hy, Instr.storeAt, Instr.sureAddr, Sem.run_bind, Sem.run_pure, Result.andThen_ok, run_storeVar_mid w b o ty cells ht hi h1] at h2 ⊢
 exact h2
end
theorem Ef (c : Cf) (e : Es) (A : Option Addr) (n cp : Nat) (w : World) : Calls Try.prog 52 #[.agg c.row, .agg e.R, .slice A n cp] w fun x w' => x = .returned (.func (.func 79) #[] #[.pointer (some ⟨w.heap.size + 1 + 1, 0, none⟩), .pointer (some ⟨w.heap.size, 0, none⟩), .pointer (some ⟨w.heap.size + 1, 0, none⟩)]) ∧ w' = (((w.alloc (.cells c.row 24)).alloc (.cells e.R 37)).alloc (.cells #[.slice A n cp] 57)) := by
 go_enter Try.func52, Try.ntmps52
 go_wp2
 go_ret
 exact ⟨rfl, rfl⟩
theorem zx (w : World) : Calls Try.prog 50 #[] w fun x w' => x = .returned (.agg PU.row) ∧ Below w.heap.size w w' := by
 go_enter Try.func50, Try.ntmps50
 go_wp2
 exact bodyPost_ret (v := .agg PU.row) (by simp [results, Try.results50, go_sem]; exact ⟨rfl, rfl, rfl, rfl, rfl, rfl⟩) rfl ⟨rfl, (Below.refl _ _).alloc (Nat.le_refl _) _⟩
theorem Rd.keep {w w' : World} {A : Option Addr} {l : List Int} (h : Rd w A l) (hk : ∀ ad, A = some ad → ad.block < w.heap.size → w'.heap[ad.block]? = w.heap[ad.block]?) : Rd w' A l :=
 ⟨h.1, h.2.1, fun hp => by
   obtain ⟨ad, e, hc⟩ := h.2.2 hp
   refine ⟨ad, e, fun j x hx => ?_⟩
   obtain ⟨c, p, hr, hcell⟩ := hc j x hx
   refine ⟨c, p, hr, fun i u hu => ?_⟩
   have hx := hcell i u hu
   have hb := qJ ad (j * (Kd.int .i64).sz + i)
   have hl := cell_lt hx
   rw [hb] at hl
   have e2 : w'.cell? (ad.add (j * (Kd.int .i64).sz + i)) = w.cell? (ad.add (j * (Kd.int .i64).sz + i)) := World.cell?_of_block (by rw [hb]; exact hk ad e hl)
   rw [e2]
   exact hx⟩
theorem Rw.keep {w w' : World} {t : Tr} (h : Rw w t) (hA : ∀ ad, t.A = some ad → ad.block < w.heap.size → w'.heap[ad.block]? = w.heap[ad.block]?) (hB : ∀ ad, t.B = some ad → ad.block < w.heap.size → w'.heap[ad.block]? = w.heap[ad.block]?) : Rw w' t :=
 ⟨Rd.keep h.x hA, h.xc, Rd.keep h.p hB, h.pd⟩
structure nR (w : World) (A : Option Addr) (l : List Sm) : Prop where
 len : l.length ≤ 1000000
 at_ : 0 < l.length → ∃ b o, A = some ⟨b, o, none⟩ ∧ b < w.heap.size ∧ ∀ j s, l[j]? = some s → w.rangeAt b (o + j * 13) s.R.toList
theorem uZ {w w' : World} {b o : Nat} {cs : List Value} (h : w.rangeAt b o cs) (hk : w'.heap[b]? = w.heap[b]?) : w'.rangeAt b o cs := fun j v hj => by
 rw [World.cell?_of_block (show w'.heap[(⟨b, o + j, none⟩ : Addr).block]? = w.heap[(⟨b, o + j, none⟩ : Addr).block]? from hk)]
 exact h j v hj
theorem nR.keep {w w' : World} {A : Option Addr} {l : List Sm} (h : nR w A l) (hs : w.heap.size ≤ w'.heap.size) (hk : ∀ ad, A = some ad → ad.block < w.heap.size → w'.heap[ad.block]? = w.heap[ad.block]?) : nR w' A l :=
 ⟨h.len, fun hp => by
   obtain ⟨b, o, rfl, hb, hc⟩ := h.at_ hp
   exact ⟨b, o, rfl, Nat.lt_of_lt_of_le hb hs, fun j s hj => uZ (hc j s hj) (hk _ rfl hb)⟩⟩
theorem nR.below {w w' : World} {A : Option Addr} {l : List Sm} (h : nR w A l) (hb : Below w.heap.size w w') : nR w' A l := h.keep hb.size (fun ad _ hl => hb.block _ hl)
end Go.Proofs.Ytnijhjbcjeohhaa.BB

namespace Go.Proofs.Ytnijhjbcjeohhaa.BB
open Go.RowKit Go.Proofs.Ytnijhjbcjeohhaa.KK Go.Proofs.Ytnijhjbcjeohhaa.EE Go.Proofs.af.aA Go.Proofs.af.aN Go.Proofs.af.aP
set_option linter.unusedVariables false
set_option linter.unusedSimpArgs false
def yv (n : En) : Array Value := #[I (n.x0.getD 0 0), I (n.x1.getD 0 0), I (n.x2.getD 0 0)]
structure Rounds (log : List Sm) (N : Nat → En) (l be : Nat) (J : Nat → World → Prop) (U : World → Nat → Prop) (P : Nat → Prop) : Prop where
 lt : ∀ k W b, J k W → U W b → b < W.heap.size
 ne : ∀ k W b, J k W → U W b → ¬ P b
 below : ∀ k W W', J k W → Below W.heap.size W W' → J k W' ∧ ∀ b, U W' b → U W b
 cells : ∀ k W vs, J k W → J k (W.setCells be 0 vs) ∧ ∀ b, U (W.setCells be 0 vs) b → U W b
 round : ∀ k (x : Es) W, k < log.length → J k W → x.nu = N (k + 1) → (∀ j, j < 3 → Rw W (x.ax j)) → YieldAt Fence.wide 2 Try.prog l #[.agg x.R, .agg (yv (N (k + 1)))] W fun e W' =>
  e = .returned (.bool true) ∧ J (k + 1) W' ∧ W.heap.size ≤ W'.heap.size ∧ (∀ b, b < W.heap.size → ¬ U W b → W'.heap[b]? = W.heap[b]?) ∧ (∀ b, U W' b → U W b ∨ W.heap.size ≤ b)
theorem Hy (c : Cf) (log : List Sm) (A : Option Addr) (cp : Nat) (N : Nat → En) (l bl bc be : Nat) (J : Nat → World → Prop) (U : World → Nat → Prop) (P : Nat → Prop) (W : World) (e0 : Es)
 (hG : ∀ k, k ≤ log.length → Gd (N k)) (hS : ∀ k s, log[k]? = some s → kX c (N k) s (N (k + 1))) (hR : Rounds log N l be J U P) (hP : P bl ∧ P bc ∧ P be ∧ (0 < log.length → ∀ ad, A = some ad → P ad.block)) (hne : be ≠ bl ∧ be ≠ bc ∧ (0 < log.length → ∀ ad, A = some ad → ad.block ≠ be))
 (r57 : Row W bl 57 #[.slice A log.length cp]) (r24 : Row W bc 24 c.row) (r37 : Row W be 37 e0.R) (he : e0.nu = N 0) (hax : ∀ j, j < 3 → Rw W (e0.ax j)) (hap : ∀ j, j < 3 → ∀ b, U W b → PY (e0.ax j) b) (hl : nR W A log) (h0 : J 0 W) :
 Calls Try.prog 79 #[.func (.yield l) #[] #[], .pointer (some ⟨bl, 0, none⟩), .pointer (some ⟨bc, 0, none⟩), .pointer (some ⟨be, 0, none⟩)] W fun x W' => x = .returned (.tuple #[]) ∧ J log.length W' := by
 have HG := Lib.hid hG
 have HS := Lib.hid hS
 have HR := Lib.hid hR
 have HP := Lib.hid hP
 have Xn := Lib.hid hne
 have F0 := Lib.hid (And.intro r57 (And.intro r24 (And.intro r37 (And.intro he (And.intro hax (And.intro hap (And.intro hl h0)))))))
 have hlen : Hid (log.length ≤ 1000000) := Lib.hid hl.len
 clear hG hS hR hP hne he hax hap hl h0 r57 r24 r37
 go_enter Try.func79, Try.ntmps79
 have hb : ∀ i, W.cell? ⟨bl, i, none⟩ = (#[.slice A log.length cp] : Array Value)[i]? := F0.out.1.cell
 go_wp2
 clear hb
 go_loopw [11] (fun i wr => ∃ (k : Nat) (ek : Es), k ≤ log.length ∧ i = .int .i64 k ∧ Hid (Row wr bl 57 #[.slice A log.length cp] ∧ Row wr bc 24 c.row ∧ Row wr be 37 ek.R ∧ ek.nu = N k ∧ (∀ j, j < 3 → Rw wr (ek.ax j)) ∧ (∀ j, j < 3 → ∀ b, U wr b → PY (ek.ax j) b) ∧ nR wr A log ∧ J k wr)) (fun i _ => log.length - (intOf i).toNat)
 case atStart => exact ⟨0, e0, by omega, rfl, F0⟩
 case round =>
  clear F0
  obtain ⟨k, ek, hk, rfl, F⟩ := hrel
  obtain rfl | hlt : k = log.length ∨ k < log.length := by omega
  · go_wp2
    go_end0
    exact ⟨rfl, F.out.2.2.2.2.2.2.2⟩
  · obtain ⟨s, hs⟩ : ∃ s, log[k]? = some s := ⟨_, List.getElem?_eq_getElem hlt⟩
    obtain ⟨lb, lo, rfl, hlb, hla⟩ := F.out.2.2.2.2.2.2.1.at_ (by omega)
    have RS := Lib.hid (hla k s hs)
    have HST := Lib.hid (HS.out k s hs)
    have fO := Lib.hid hlt
    have HL := hlen.out
    have g0 : (0 : Int) ≤ (k : Int) := by omega
    have g1 : (k : Int) < (log.length : Int) := by omega
    clear hla hlb hs hlt hk
    have hd : decide ((k : Int) < (log.length : Int)) = true := decide_eq_true g1
    have i46 : Hid ((Try.prog.info? 46).map (·.size) = some s.R.toList.length) := Lib.hid (by kernel_rfl)
    have X3 : Hid ((Try.prog.info? 46).map (·.size) = some s.R.size) := Lib.hid (by kernel_rfl)
    have Tn : Hid (s.R.all (·.oneCell') = true) := Lib.hid (by kernel_rfl)
    have TN := Lib.hid (oU wr #[.bool false, .int .i64 0, .int .i64 0, .int .i64 0, .int .i64 0, .int .i64 0, .int .i64 0, .bool false, .int .i64 0, .bool false, .int .i64 0, .int .i64 0, .int .i64 0] s.R 46 rfl)
    have TH : Hid ((wr.alloc (.cells #[.bool false, .int .i64 0, .int .i64 0, .int .i64 0, .int .i64 0, .int .i64 0, .int .i64 0, .bool false, .int .i64 0, .bool false, .int .i64 0, .int .i64 0, .int .i64 0] 46)).there wr.heap.size 0 s.R.size) := Lib.hid (by have h := Row.there (Row.new wr 46 #[.bool false, .int .i64 0, .int .i64 0, .int .i64 0, .int .i64 0, .int .i64 0, .int .i64 0, .bool false, .int .i64 0, .bool false, .int .i64 0, .int .i64 0, .int .i64 0]); exact h)
    go_upto_region 3 with (first | with_reducible refine OG.gV rfl 46 (.tmp 13) rfl lb (lo + k * 13) rfl s.R.toList _ RS.out Try.underlying46 rfl i46.out ?_ | with_reducible refine wpList_store_mid rfl 46 (.tmp 6) (.tmp 14) rfl wr.heap.size 0 s.R rfl rfl TH.out X3.out Tn.out ?_)
    clear TH RS hd Tn X3 g0 g1 HL
    generalize (wr.alloc (.cells #[.bool false, .int .i64 0, .int .i64 0, .int .i64 0, .int .i64 0, .int .i64 0, .int .i64 0, .bool false, .int .i64 0, .bool false, .int .i64 0, .int .i64 0, .int .i64 0] 46)).setCells wr.heap.size 0 s.R.toList = w1 at TN ⊢
    have R46 := Lib.hid TN.out.1
    have B1 := Lib.hid TN.out.2
    clear TN
    generalize hz : wr.heap.size = z at R46 B1 ⊢
    have HZ := Lib.hid hz
    clear hz
    have RC : Hid (Row w1 bc 24 c.row) := Lib.hid (F.out.2.1.below B1.out (by have := F.out.2.1.lt; have := HZ.out; omega))
    have RE : Hid (Row w1 be 37 ek.R) := Lib.hid (F.out.2.2.1.below B1.out (by have := F.out.2.2.1.lt; have := HZ.out; omega))
    have ST : Hid (Calls Try.prog 16 #[.agg c.row, .agg ek.R, .agg s.R] w1 fun x w' => ∃ e' : Es, e'.nu = N (k + 1) ∧ x = .returned (.tuple #[.agg e'.R, .agg (yv (N (k + 1)))]) ∧ (∀ j, j < 3 → Ro w1.heap.size w' (e'.ax j)) ∧ Below w1.heap.size w1 w') := Lib.hid (HST.out ek w1 F.out.2.2.2.1 (fun j hj => (F.out.2.2.2.2.1 j hj).below (by rw [HZ.out]; exact B1.out)))
    have hc : ∀ i, w1.cell? ⟨bc, i, none⟩ = c.row[i]? := RC.out.cell
    have Y0 := Lib.hid (Row.whole RE.out)
    have YZ := Lib.hid (Row.whole R46.out)
    have i37 : Hid ((Try.prog.info? 37).map (·.size) = some ek.R.toList.length) := Lib.hid (by kernel_rfl)
    go_wp2_with (first | with_reducible refine OG.gV rfl 37 (.tmp 3) rfl be 0 rfl ek.R.toList _ Y0.out Try.underlying37 rfl i37.out ?_ | with_reducible refine OG.gV rfl 46 (.tmp 6) rfl z 0 rfl s.R.toList _ YZ.out Try.underlying46 rfl i46.out ?_)
    refine ST.out.mono ?_
    rintro x w2 ⟨e', hn, rfl, hr, hb⟩
    have B2 : Hid (Below z wr w2) := Lib.hid (B1.out.trans (hb.mono (by have h := B1.out.size; have h2 := HZ.out; omega)))
    have RO : Hid (∀ j, j < 3 → Ro w1.heap.size w2 (e'.ax j)) := Lib.hid hr
    have HN := Lib.hid hn
    have SZ : Hid (z ≤ w1.heap.size) := Lib.hid (by have h := B1.out.size; have h2 := HZ.out; omega)
    clear hb hr hn hc Y0 YZ i37 i46 ST RC RE R46 HST
    generalize w1.heap.size = z1 at RO SZ
    clear B1
    clear w1
    have EY : Hid (yv (N (k + 1)) = #[I ((N (k + 1)).x0.getD 0 0), I ((N (k + 1)).x1.getD 0 0), I ((N (k + 1)).x2.getD 0 0)]) := Lib.hid rfl
    generalize (N (k + 1)).x0.getD 0 0 = y0 at EY
    generalize (N (k + 1)).x1.getD 0 0 = y1 at EY
    generalize (N (k + 1)).x2.getD 0 0 = y2 at EY
    rw [EY.out]
    have TN := Lib.hid (P8 w2 #[.int .i64 0, .int .i64 0, .int .i64 0, .int .i64 0, .int .i64 0, .int .i64 0, .slice none 0 0, .int .i64 0, .int .i64 0, .slice none 0 0, .int .i64 0, .int .i64 0, .slice none 0 0, .int .i64 0, .int .i64 0, .slice none 0 0, .int .i64 0, .int .i64 0, .slice none 0 0, .int .i64 0, .int .i64 0, .slice none 0 0, .int .i64 0, .int .i64 0, .int .i64 0, .int .i64 0, .int .i64 0, .int .i64 0, .bool false] #[.int .i64 0, .int .i64 0, .int .i64 0] e'.R #[I y0, I y1, I y2] 37 42 rfl rfl)
    have TH := Lib.hid (JX w2 #[.int .i64 0, .int .i64 0, .int .i64 0, .int .i64 0, .int .i64 0, .int .i64 0, .slice none 0 0, .int .i64 0, .int .i64 0, .slice none 0 0, .int .i64 0, .int .i64 0, .slice none 0 0, .int .i64 0, .int .i64 0, .slice none 0 0, .int .i64 0, .int .i64 0, .slice none 0 0, .int .i64 0, .int .i64 0, .slice none 0 0, .int .i64 0, .int .i64 0, .int .i64 0, .int .i64 0, .int .i64 0, .int .i64 0, .bool false] #[.int .i64 0, .int .i64 0, .int .i64 0] e'.R #[I y0, I y1, I y2] 37 42 rfl rfl)
    have i37 : Hid ((Try.prog.info? 37).map (·.size) = some e'.R.size) := Lib.hid (by kernel_rfl)
    have one : Hid (e'.R.all (·.oneCell') = true) := Lib.hid (by kernel_rfl)
    go_upto_region 4 with (first | with_reducible refine wpList_store_mid rfl 37 (.tmp 7) (.tmp 20) rfl w2.heap.size 0 e'.R rfl rfl TH.out.1 i37.out one.out ?_ | with_reducible refine wpList_store_mid rfl 42 (.tmp 8) (.tmp 21) rfl (w2.heap.size + 1) 0 #[I y0, I y1, I y2] rfl rfl TH.out.2 (by kernel_rfl) (by kernel_rfl) ?_)
    clear TH i37 one
    generalize (((w2.alloc (.cells #[.int .i64 0, .int .i64 0, .int .i64 0, .int .i64 0, .int .i64 0, .int .i64 0, .slice none 0 0, .int .i64 0, .int .i64 0, .slice none 0 0, .int .i64 0, .int .i64 0, .slice none 0 0, .int .i64 0, .int .i64 0, .slice none 0 0, .int .i64 0, .int .i64 0, .slice none 0 0, .int .i64 0, .int .i64 0, .slice none 0 0, .int .i64 0, .int .i64 0, .int .i64 0, .int .i64 0, .int .i64 0, .int .i64 0, .bool false] 37)).alloc (.cells #[.int .i64 0, .int .i64 0, .int .i64 0] 42)).setCells w2.heap.size 0 e'.R.toList).setCells (w2.heap.size + 1) 0 #[I y0, I y1, I y2].toList = w3 at TN ⊢
    have R7 := Lib.hid TN.out.1
    have R8 := Lib.hid TN.out.2.1
    have B3 : Hid (Below z wr w3) := Lib.hid (B2.out.trans (TN.out.2.2.mono (by have h := B2.out.size; have h2 := HZ.out; omega)))
    have SZ2 : Hid (z ≤ w2.heap.size) := Lib.hid (by have h := B2.out.size; have h2 := HZ.out; omega)
    have RX : Hid (∀ j, j < 3 → Rw w3 (e'.ax j)) := Lib.hid (fun j hj => (RO.out j hj).1.below TN.out.2.2)
    clear TN B2
    generalize w2.heap.size = z2 at R7 R8 SZ2
    have JU := HR.out.below k wr w3 F.out.2.2.2.2.2.2.2 (by rw [HZ.out]; exact B3.out)
    have J3 := Lib.hid JU.1
    have U3 : Hid (∀ b, U w3 b → b < z) := Lib.hid (fun b h => by rw [← HZ.out]; exact HR.out.lt k wr b F.out.2.2.2.2.2.2.2 (JU.2 b h))
    clear JU
    obtain ⟨fn, tm, asg, bd, hy, hRd⟩ := HR.out.round k e' w3 fO.out J3.out HN.out RX.out
    rw [EY.out] at hy
    have HRD := Lib.hid hRd
    clear hRd
    have RL7 := Lib.hid (Row.whole R7.out)
    have i37 : Hid ((Try.prog.info? 37).map (·.size) = some e'.R.toList.length) := Lib.hid (by kernel_rfl)
    have c8 : ∀ i, w3.cell? ⟨z2 + 1, i, none⟩ = #[I y0, I y1, I y2][i]? := R8.out.cell
    simp only [Act.put]
    refine (wpIn_wide (n := 3)).1 ?_
    gi_wp2_with (with_reducible refine qM rfl 37 (.tmp 7) rfl z2 0 rfl e'.R.toList _ RL7.out Try.underlying37 rfl i37.out ?_)
    refine HRD.out.mono ?_
    rintro e W4 ⟨rfl, hJ4, hs4, hk4, Xa⟩
    have J4 := Lib.hid hJ4
    have S4 := Lib.hid hs4
    have K4 : Hid (∀ b, b < w3.heap.size → (b < z → P b) → W4.heap[b]? = w3.heap[b]?) := Lib.hid (fun b hb hp => hk4 b hb (fun hu => HR.out.ne k w3 b J3.out hu (hp (U3.out b hu))))
    have U4 : Hid (∀ b, U W4 b → b < z ∨ w3.heap.size ≤ b) := Lib.hid (fun b hu => (Xa b hu).imp (U3.out b) id)
    clear hJ4 hs4 hk4 Xa hy HRD c8 RL7 i37
    have lz : z ≤ w3.heap.size := by have h := B3.out.size; have h2 := HZ.out; omega
    have L3 : ∀ b, b < z → w3.heap[b]? = wr.heap[b]? := fun b hb => B3.out.block b hb
    have rl : Hid (Row W4 bl 57 #[.slice (some ⟨lb, lo, none⟩) log.length cp]) := Lib.hid (((K4.out bl (by have h := F.out.1.lt; have h2 := HZ.out; omega) (fun _ => HP.out.1)).trans (L3 bl (by have h := F.out.1.lt; have h2 := HZ.out; omega))).trans F.out.1)
    have rc : Hid (Row W4 bc 24 c.row) := Lib.hid (((K4.out bc (by have h := F.out.2.1.lt; have h2 := HZ.out; omega) (fun _ => HP.out.2.1)).trans (L3 bc (by have h := F.out.2.1.lt; have h2 := HZ.out; omega))).trans F.out.2.1)
    have re : Hid (Row W4 be 37 ek.R) := Lib.hid (((K4.out be (by have h := F.out.2.2.1.lt; have h2 := HZ.out; omega) (fun _ => HP.out.2.2.1)).trans (L3 be (by have h := F.out.2.2.1.lt; have h2 := HZ.out; omega))).trans F.out.2.2.1)
    have r7 : Hid (Row W4 z2 37 e'.R) := Lib.hid ((K4.out z2 R7.out.lt (fun h => absurd h (by have := SZ2.out; omega))).trans R7.out)
    have rx : Hid (∀ j, j < 3 → Rw W4 (e'.ax j)) := Lib.hid (fun j hj => Rw.keep (RX.out j hj) (fun ad e hl => K4.out _ hl (fun h => absurd h (by have := (RO.out j hj).na ad e; have := SZ.out; omega))) (fun ad e hl => K4.out _ hl (fun h => absurd h (by have := (RO.out j hj).nb ad e; have := SZ.out; omega))))
    have rs : Hid (nR W4 (some ⟨lb, lo, none⟩) log) := Lib.hid (nR.keep (nR.below F.out.2.2.2.2.2.2.1 (by rw [HZ.out]; exact B3.out)) S4.out (fun ad e hl => K4.out _ hl (fun _ => HP.out.2.2.2 (by have := fO.out; omega) ad e)))
    have ap : Hid (∀ j, j < 3 → ∀ b, U W4 b → PY (e'.ax j) b) := Lib.hid (fun j hj b hu => (U4.out b hu).elim (fun h => (RO.out j hj).VW (by have := SZ.out; omega)) (fun h => (RX.out j hj).VW (by
     have g := (HG.out (k + 1) fO.out).lx j hj
     rw [← HN.out] at g
     have : (e'.ax j).x.length = 3 := by obtain rfl | rfl | rfl : j = 0 ∨ j = 1 ∨ j = 2 := by omega
                                         all_goals exact g
     omega) (by
     have g := (HG.out (k + 1) fO.out).lp j hj
     rw [← HN.out] at g
     have : (e'.ax j).p.length = 9 := by obtain rfl | rfl | rfl : j = 0 ∨ j = 1 ∨ j = 2 := by omega
                                         all_goals exact g
     omega) h))
    have ab : Hid (∀ j, j < 3 → PY (e'.ax j) be) := Lib.hid (fun j hj => (RO.out j hj).VW (by have h := F.out.2.2.1.lt; have h2 := HZ.out; have := SZ.out; omega))
    clear lz L3 K4 U4 S4 RX RO R7 R8 B3 U3 J3 F SZ SZ2
    gi_wp2
    have RL7 := Lib.hid (Row.whole r7.out)
    have TE : Hid (W4.there be 0 e'.R.size) := Lib.hid (by have h := Row.there re.out; exact h)
    have i37 : Hid ((Try.prog.info? 37).map (·.size) = some e'.R.toList.length) := Lib.hid (by kernel_rfl)
    have xZ : Hid ((Try.prog.info? 37).map (·.size) = some e'.R.size) := Lib.hid (by kernel_rfl)
    have one : Hid (e'.R.all (·.oneCell') = true) := Lib.hid (by kernel_rfl)
    have g0 : (0 : Int) ≤ (k : Int) := by omega
    have g1 : (k : Int) < 1000000 := by have := fO.out; have := hlen.out; omega
    go_wp2_with (first | with_reducible refine OG.gV rfl 37 (.tmp 7) rfl z2 0 rfl e'.R.toList _ RL7.out Try.underlying37 rfl i37.out ?_ | with_reducible refine wpList_store_mid rfl 37 (.tmp 3) (.tmp 27) rfl be 0 e'.R rfl rfl TE.out xZ.out one.out ?_)
    have hw : IntKind.i64.wrap ((k : Int) + 1) = ((k + 1 : Nat) : Int) := by rw [IntWalk.i64_in _ (by omega)]; omega
    go_roundw
    case rel =>
     refine ⟨k + 1, e', fO.out, by first | rfl | (simp [hw]) | (rw [hw]), Lib.hid ⟨(OG.dA _ _ _ _ (Ne.symm Xn.out.1)).trans rl.out, (OG.dA _ _ _ _ (Ne.symm Xn.out.2.1)).trans rc.out, Row.full re.out e'.R rfl, HN.out, fun j hj => (rx.out j hj).cells (ab.out j hj) _, fun j hj b hu => ap.out j hj b ((HR.out.cells (k + 1) W4 _ J4.out).2 b hu), rs.out.keep (iH e'.R.toList 0 W4 : W4.grownBy (W4.setCells be 0 e'.R.toList) (some be)).size (fun ad e hl => OG.dA _ _ _ _ (Xn.out.2.2 (by have := fO.out; omega) ad e)), (HR.out.cells (k + 1) W4 _ J4.out).1⟩⟩
    case measure =>
     have := fO.out
     simp [intOf, hw]
     omega
end Go.Proofs.Ytnijhjbcjeohhaa.BB

namespace Go.Proofs.Ytnijhjbcjeohhaa.BB
open Go.RowKit Go.Proofs.Ytnijhjbcjeohhaa.KK Go.Proofs.Ytnijhjbcjeohhaa.EE
theorem La {F : Fence} {n : Nat} {P : Program} {c : Code} {a : Act} {w : World} {K : Act → World → Prop} {E : Exit → Act → World → Prop} (h : ∀ K' : Act → World → Prop, Hid (∀ a w, K a w → K' a w) → c.wpIn F n P (Exit.then K' E) a w) : c.wpIn F n P (Exit.then K E) a w := h K (Lib.hid fun _ _ h => h)
theorem Lc {F : Fence} {n : Nat} {P : Program} {c : Code} {a : Act} {w : World} {Q : Exit → Act → World → Prop} (h : ∀ Q' : Exit → Act → World → Prop, Hid (∀ e a w, Q e a w → Q' e a w) → c.wpIn F n P Q' a w) : c.wpIn F n P Q a w := h Q (Lib.hid fun _ _ _ h => h)
theorem G6 {P : Program} {g : Operand} {ps : Array Tmp} {assign body : Code} {Q : Exit → Act → World → Prop} {a : Act} {w : World} {gf : Nat} {lb : Array Value} (hg : a.eval g = .func (.func gf) #[] lb) (eg : ∀ args w, (callFunc gf args).run P w = .ok (.enter gf args) w)
 (h : ∀ (fn : FuncId) (rec : LoopState → Option Code → Loop), (rec = fun st pe => { state := st, pending := pe, fn, tmps := a.tmps, params := ps, assign, body, defers := w.heap.size }) →
   Calls P gf (#[.func (.yield (w.heap.size + 1)) #[] #[]] ++ lb) ((w.alloc (.deferred (some []))).alloc (.loop (rec .ready none))) fun e w' => (∃ v, e = .returned v) ∧ w'.heap[w.heap.size + 1]? = some (.loop (rec .ready none)) ∧
    Q .normal { a with defers := { target := .collected w.heap.size, args := #[] } :: a.defers } (w'.putObj (w.heap.size + 1) (.loop (rec .exhausted none)))) :
 (Code.rangeFunc g ps assign body).wp P Q a w := by
 refine (wpIn_wide (n := 4)).1 (wpIn_rangeFunc ?_)
 intro fn hfn
 have hE := run_enterLoop_outer (P := P) (w := w) fn a.tmps ps assign body
 have hh := h fn _ rfl
 generalize ((w.alloc (.deferred (some []))).alloc (.loop { state := .ready, pending := none, fn, tmps := a.tmps, params := ps, assign, body, defers := w.heap.size })) = W1 at hE hh
 refine ⟨w.heap.size + 1, [{ target := .collected w.heap.size, args := #[] }], W1, { target := .fn (.func gf) lb, args := #[.func (.yield (w.heap.size + 1)) #[] #[]] }, W1, gf, #[.func (.yield (w.heap.size + 1)) #[] #[]] ++ lb, W1, hE, ?_, fun _ _ => trivial, ?_, fun _ => by decide, ?_⟩
 · simp only [resolve, hg]
   simp [go_sem]
 · simp [invoke, go_sem, eg]
 · refine callsIn_wide.2 (hh.mono ?_)
   rintro e w' ⟨⟨v, rfl⟩, hl, hq⟩
   exact ⟨none, _, run_endLoop (P := P) hl (by simp), hq⟩
end Go.Proofs.Ytnijhjbcjeohhaa.BB

namespace Go.Proofs.Ytnijhjbcjeohhaa.BB
open Go.RowKit Go.Proofs.Ytnijhjbcjeohhaa.KK Go.Proofs.Ytnijhjbcjeohhaa.EE
set_option linter.unusedVariables false
def outs (N : Nat → En) (k : Nat) : List Value := (List.range k).flatMap fun j => (yv (N (j + 1))).toList
theorem Kz (N : Nat → En) (k : Nat) : outs N (k + 1) = outs N k ++ (yv (N (k + 1))).toList := by simp [outs, List.range_succ]
structure Jf (N : Nat → En) (w : World) (D B6 B8 : Nat) (r : Loop) (k : Nat) (W : World) : Prop where
 r6 : ∃ e : Es, e.nu = N k ∧ Row W B6 37 e.R
 r8 : ∃ v, Boxed W B8 69 v ∧ W.ownsRow D 42 3 v k (outs N k)
 r4 : ∃ a : Array Value, a.size = 29 ∧ Row W (w.heap.size + 1) 37 a
 rl : W.heap[D + 1]? = some (.loop r)
 rd : W.heap[D]? = some (.deferred (some []))
 be : Below w.heap.size w W
def Uf (D B6 B8 : Nat) (W : World) (b : Nat) : Prop := b = D + 1 ∨ b = B6 ∨ b = B8 ∨ ∃ v, Boxed W B8 69 v ∧ v.ownBlock = some b
theorem Boxed.one {W : World} {B : Nat} {t : TypeId} {u v : Value} (h : Boxed W B t u) (h' : Boxed W B t v) : u = v := by
 have := h.symm.trans h'
 simpa using this
theorem Row.lt' {W : World} {B : Nat} {t : TypeId} {cs : Array Value} (h : Row W B t cs) : B < W.heap.size := (Array.getElem?_eq_some_iff.1 h).1
theorem gp {W W' : World} {base : Nat} {e : TypeId} {size : Nat} {v : Value} {k : Nat} {xs : List Value} (h : W.ownsRow base e size v k xs) (hk : ∀ g, v.ownBlock = some g → W'.heap[g]? = W.heap[g]?) : W'.ownsRow base e size v k xs := by
 refine ⟨h.1, ?_⟩
 rcases h.2 with hn | ⟨g, cap, cur, rfl, hb, hgg, rest⟩
 · exact .inl hn
 · exact .inr ⟨g, cap, cur, rfl, hb, (hk g rfl).trans hgg, rest⟩
section
variable {N : Nat → En} {w : World} {D B6 B8 : Nat} {r : Loop} {k : Nat} {W W' : World}
theorem Jf.lt (h : Jf N w D B6 B8 r k W) {b : Nat} (hu : Uf D B6 B8 W b) : b < W.heap.size := by
 rcases hu with rfl | rfl | rfl | ⟨v, hv, ho⟩
 · exact (Array.getElem?_eq_some_iff.1 h.rl).1
 · obtain ⟨e, _, h6⟩ := h.r6
   exact Row.lt' h6
 · obtain ⟨v, h8, _⟩ := h.r8
   exact h8.lt
 · obtain ⟨v', h8, hr⟩ := h.r8
   obtain rfl := Boxed.one hv h8
   exact (hr.lt b ho).2
theorem Jf.ne (h : Jf N w D B6 B8 r k W) {b : Nat} (hu : Uf D B6 B8 W b) : ¬ (b < D ∧ b ≠ B6 ∧ b ≠ B8) := by
 rcases hu with rfl | rfl | rfl | ⟨v, hv, ho⟩
 · omega
 · omega
 · omega
 · obtain ⟨v', h8, hr⟩ := h.r8
   obtain rfl := Boxed.one hv h8
   have := (hr.lt b ho).1
   omega
theorem Jf.keep (h : Jf N w D B6 B8 r k W) (hs : W.heap.size ≤ W'.heap.size) (hD : w.heap.size + 2 ≤ D) (h6 : w.heap.size ≤ B6) (h8 : w.heap.size ≤ B8) (g : Nat → Prop) (hw : ∀ b, b < w.heap.size → g b)
 (hu : ∀ b, Uf D B6 B8 W b → g b) (hd : g D) (h4 : g (w.heap.size + 1)) (hk : ∀ b, b < W.heap.size → g b → W'.heap[b]? = W.heap[b]?) (hb : Below w.heap.size W W') : Jf N w D B6 B8 r k W' ∧ ∀ b, Uf D B6 B8 W' b → Uf D B6 B8 W b := by
 have K : ∀ b, Uf D B6 B8 W b → W'.heap[b]? = W.heap[b]? := fun b hu' => hk b (h.lt hu') (hu b hu')
 obtain ⟨e, he, r6⟩ := h.r6
 obtain ⟨v, r8, hr⟩ := h.r8
 obtain ⟨a, ha, r4⟩ := h.r4
 have r8' : Boxed W' B8 69 v := (K B8 (.inr (.inr (.inl rfl)))).trans r8
 refine ⟨⟨⟨e, he, (K B6 (.inr (.inl rfl))).trans r6⟩, ⟨v, r8', gp hr (fun g' hg => K g' (.inr (.inr (.inr ⟨v, r8, hg⟩))))⟩, ⟨a, ha, (hk _ (Row.lt' r4) h4).trans r4⟩, (K _ (.inl rfl)).trans h.rl, (hk D (Array.getElem?_eq_some_iff.1 h.rd).1 hd).trans h.rd, h.be.trans hb⟩, ?_⟩
 rintro b (hb' | hb' | hb' | ⟨u, hu', ho⟩)
 · exact .inl hb'
 · exact .inr (.inl hb')
 · exact .inr (.inr (.inl hb'))
 · obtain rfl := Boxed.one hu' r8'
   exact .inr (.inr (.inr ⟨_, r8, ho⟩))
theorem Jf.below (h : Jf N w D B6 B8 r k W) (hD : w.heap.size + 2 ≤ D) (h6 : w.heap.size ≤ B6) (h8 : w.heap.size ≤ B8) (hb : Below W.heap.size W W') : Jf N w D B6 B8 r k W' ∧ ∀ b, Uf D B6 B8 W' b → Uf D B6 B8 W b :=
 h.keep hb.size hD h6 h8 (fun _ => True) (fun _ _ => trivial) (fun _ _ => trivial) trivial trivial (fun b hl _ => hb.block b hl) (hb.mono h.be.size)
theorem Jf.cells (h : Jf N w D B6 B8 r k W) (hD : w.heap.size + 2 ≤ D) (h6 : w.heap.size ≤ B6) (h8 : w.heap.size ≤ B8) (be : Nat) (hbe : w.heap.size + 2 ≤ be) (hlt : be < D) (n6 : be ≠ B6) (n8 : be ≠ B8) (vs : List Value) : Jf N w D B6 B8 r k (W.setCells be 0 vs) ∧ ∀ b, Uf D B6 B8 (W.setCells be 0 vs) b → Uf D B6 B8 W b :=
 h.keep (iH vs 0 W : W.grownBy (W.setCells be 0 vs) (some be)).size hD h6 h8 (fun b => b ≠ be) (fun b hl => by omega) (fun b hu e => by subst e; exact h.ne hu ⟨hlt, n6, n8⟩) (by omega) (by omega) (fun b _ hn => OG.dA _ _ _ _ hn) (KK.dF _ _ _ (Below.refl _ _) (by omega))
end
end Go.Proofs.Ytnijhjbcjeohhaa.BB

namespace Go.Proofs.Ytnijhjbcjeohhaa.BB
open Go.RowKit
set_option linter.unusedVariables false
section
variable {P : Program}
theorem wH (w : World) (base : Nat) (t ty e : TypeId) (i : TypeInfo) (z : Value) (size bytes : Nat) (ht : P.underlying t = some (.slice e)) (hi : P.info? e = some i) (hz : i.zero = some z)
 (hsize : i.size = size) (hby : i.bytes = bytes) (hzs : z.cells.size = size) (hsz : 0 < size)
 (v : Value) (n : Nat) (xs : List Value) (hown : w.ownsRow base e size v n xs)
 (a : Addr) (m c : Nat) (news : List Value) (hl : news.length = m * size) (hnews : ∀ j u, news[j]? = some u → w.cell? (a.add j) = some u) (h1 : ∀ u ∈ news, u.oneCell' = true)
 (h63 : n + m ≤ maxLen) (hbytes : (n + m) * bytes ≤ 140737488355328) (hbase : base ≤ w.heap.size) :
 ∃ v' w', (Builtin.append_ #[t, t] ty #[v, .slice (some a) m c]).run P w = .ok v' w' ∧ w'.ownsRow base e size v' (n + m) (xs ++ news) ∧ w.grownBy w' v.ownBlock ∧
   (∀ g, v'.ownBlock = some g → v.ownBlock = some g ∨ g = w.heap.size) := by
 obtain ⟨v', w', hr, r1, r2, r3⟩ := run_append_own (P := P) w base t ty e i z size bytes ht hi hz hsize hby hzs hsz v n xs hown a m c news hl hnews h1 h63 hbytes hbase
 refine ⟨v', w', hr, r1, r2, fun g hg => ?_⟩
 have hsmall : n + m ≤ 9223372036854775807 := by simp only [maxLen] at h63; omega
 subst hsize
 subst hby
 rcases hown.2 with ⟨rfl, rfl⟩ | ⟨b, cap, cur, rfl, hbg, hgb, hnc, hcm, hcs, htake⟩
 · by_cases hm : m = 0
   · rw [r3.2 ⟨rfl, hm⟩] at hg
     simp [Value.ownBlock] at hg
   · have hr2 := run_append_nil (P := P) w t ty e i z ht hi hz a m c news hl hnews (by omega) (by omega) (by have hb := hbytes; simp only [Nat.zero_add] at hb; omega)
     have h := hr.symm.trans hr2
     injection h with h _
     rw [h] at hg
     exact .inr (by simpa [Value.ownBlock] using hg.symm)
 · by_cases hroom : n + m ≤ cap
   · have hfit : n * i.size + news.length ≤ cur.size := by rw [hl, hcs, ← Nat.add_mul]; exact Nat.mul_le_mul_right _ hroom
     have hr2 := run_append_room (P := P) w t ty e i ht hi b n cap cur hgb a m c news hl hnews h1 hroom hfit
     have h := hr.symm.trans hr2
     injection h with h _
     rw [h] at hg
     exact .inl hg
   · have holds : ∀ j u, xs[j]? = some u → w.cell? ((⟨b, 0, none⟩ : Addr).add j) = some u := hown.cells (g := b) rfl
     have hr2 := run_append_grow (P := P) w t ty e i z ht hi hz ⟨b, 0, none⟩ n cap xs hown.1 holds a m c news hl hnews (by omega) (by omega) (growslice_fits (by omega) hbytes)
     have h := hr.symm.trans hr2
     injection h with h _
     rw [h] at hg
     exact .inr (by simpa [Value.ownBlock] using hg.symm)
theorem qU {F : Fence} {n : Nat} (w : World) {ops : Array Oper} {rest : List Oper} {o : Oper} {a : Act} {Q : Exit → Act → World → Prop}
 (hg : o.guard = none) (s x : Operand) (t : TypeId) (hop : o.op = Op.call { callee := Callee.builtin Builtin.append, args := #[s, x], argTypes := #[t, t] })
 (base : Nat) (e : TypeId) (i : TypeInfo) (z : Value) (size bytes : Nat) (h1 : P.underlying t = some (.slice e)) (h2 : P.info? e = some i) (h3 : i.zero = some z) (h4 : i.size = size) (h5 : i.bytes = bytes) (h6 : z.cells.size = size) (h7 : 0 < size)
 (v : Value) (k : Nat) (xs : List Value) (hs : a.eval s = v) (hown : w.ownsRow base e size v k xs) (ad : Addr) (m c : Nat) (news : List Value) (hx : a.eval x = .slice (some ad) m c) (hn : news.length = m * size)
 (hc : ∀ j u, news[j]? = some u → w.cell? (ad.add j) = some u) (h1c : ∀ u ∈ news, u.oneCell' = true) (b1 : k + m ≤ maxLen) (b2 : (k + m) * bytes ≤ 140737488355328) (b3 : base ≤ w.heap.size)
 (hK : ∀ v' w', w'.ownsRow base e size v' (k + m) (xs ++ news) → w.grownBy w' v.ownBlock → (∀ g, v'.ownBlock = some g → v.ownBlock = some g ∨ g = w.heap.size) → wpListIn F n P ops Q rest (a.put o.dst v') w') :
 wpListIn F n P ops Q (o :: rest) a w := by
 refine wpListIn_plain hg fun K hK' => ?_
 obtain ⟨v', w', hrun, r1, r2, r3⟩ := wH (P := P) w base t o.type e i z size bytes h1 h2 h3 h4 h5 h6 h7 v k xs hown ad m c news hn hc h1c b1 b2 b3
 unfold Oper.wpIn
 refine ⟨?_, ?_⟩
 · simp [Oper.about, hop, resolve, Target.leads, Sem.run_pure]
 · rw [Oper.semAt_plain F _ _ (by rw [hop]; intro c hc'; cases hc')]
   simp [execOp, hop, resolve, invoke, builtin, hs, hx, hrun, Result.andThen]
   exact hK' _ _ (hK v' w' r1 r2 r3)
end
end Go.Proofs.Ytnijhjbcjeohhaa.BB

namespace Go.Proofs.Ytnijhjbcjeohhaa.BB
open Go.RowKit Go.Proofs.Ytnijhjbcjeohhaa.KK Go.Proofs.Ytnijhjbcjeohhaa.EE Go.Proofs.af.aA Go.Proofs.af.aN Go.Proofs.af.aP
set_option linter.unusedVariables false
set_option linter.unusedSimpArgs false
attribute [local go_sem] Oper.semAt_some
theorem abR (T : Array Value) (a b : Value) : ((#[20, 21] : Array Tmp).zip #[a, b]).foldl (fun t x => t.setIfInBounds x.1 x.2) T = (T.setIfInBounds 20 a).setIfInBounds 21 b := by simp
theorem oz (c : Cf) (log : List Sm) (A : Option Addr) (cp : Nat) (N : Nat → En) (w0 : World) (hm : c.may = true) (hG : ∀ k, k ≤ log.length → Gd (N k)) (hS : ∀ k s, log[k]? = some s → kX c (N k) s (N (k + 1))) (h0 : N 0 = en0) (hl : nR w0 A log) :
 Calls Try.prog 31 #[.agg c.row, .slice A log.length cp] w0 fun x w0' => ∃ (e : Es) (v : Value), e.nu = N log.length ∧ x = .returned (.tuple #[.agg e.R, v]) ∧ w0'.ownsRow w0.heap.size 42 3 v log.length (outs N log.length) ∧ Below w0.heap.size w0 w0' := by
 have HM := Lib.hid hm
 have HG := Lib.hid hG
 have HS := Lib.hid hS
 have H0 := Lib.hid h0
 have HL := Lib.hid hl
 clear hm hG hS h0 hl
 have L : Hid (aS w0 [(24, c.row), (37, #[.int .i64 0, .int .i64 0, .int .i64 0, .int .i64 0, .int .i64 0, .int .i64 0, .slice none 0 0, .int .i64 0, .int .i64 0, .slice none 0 0, .int .i64 0, .int .i64 0, .slice none 0 0, .int .i64 0, .int .i64 0, .slice none 0 0, .int .i64 0, .int .i64 0, .slice none 0 0, .int .i64 0, .int .i64 0, .slice none 0 0, .int .i64 0, .int .i64 0, .int .i64 0, .int .i64 0, .int .i64 0, .int .i64 0, .bool false])] (((w0.alloc (.cells c.row 24)).alloc (.cells #[.int .i64 0, .int .i64 0, .int .i64 0, .int .i64 0, .int .i64 0, .int .i64 0, .slice none 0 0, .int .i64 0, .int .i64 0, .slice none 0 0, .int .i64 0, .int .i64 0, .slice none 0 0, .int .i64 0, .int .i64 0, .slice none 0 0, .int .i64 0, .int .i64 0, .slice none 0 0, .int .i64 0, .int .i64 0, .slice none 0 0, .int .i64 0, .int .i64 0, .int .i64 0, .int .i64 0, .int .i64 0, .int .i64 0, .bool false] 37)))) := Lib.hid (((aS.none w0).push (by simp) _ _).push (by simp) _ _)
 refine callsIn_wide.1 (callsIn_of_wp_marks (n := 4) (F := Fence.wide) Try.func31 rfl trivial ?_ rfl)
 simp only [Try.ntmps31, List.size_toArray, List.length_cons, List.length_nil, Nat.reduceAdd, Nat.reduceSub, Array.replicate_succ, Array.replicate_zero, List.push_toArray, List.append_toArray, List.nil_append, List.cons_append]
 refine wpIn_wide.2 ?_
 go_upto_region 1 with fail
 generalize ((w0.alloc (.cells c.row 24)).alloc (.cells #[.int .i64 0, .int .i64 0, .int .i64 0, .int .i64 0, .int .i64 0, .int .i64 0, .slice none 0 0, .int .i64 0, .int .i64 0, .slice none 0 0, .int .i64 0, .int .i64 0, .slice none 0 0, .int .i64 0, .int .i64 0, .slice none 0 0, .int .i64 0, .int .i64 0, .slice none 0 0, .int .i64 0, .int .i64 0, .slice none 0 0, .int .i64 0, .int .i64 0, .int .i64 0, .int .i64 0, .int .i64 0, .int .i64 0, .bool false] 37)) = w1 at L ⊢
 have hc := L.out.r0.cell
 go_wp2_with fail
 refine (H9 c _ HM.out).mono ?_
 rintro x w2 ⟨t, rfl, ht, hb⟩
 have L2 := Lib.hid (L.out.below hb)
 rw [UY t (fun j hj => ⟨(ht j hj).1, (ht j hj).2.1⟩)]
 have HE : Hid ((ER t).nu = en0) := Lib.hid (Qs t (fun j hj => ⟨(ht j hj).1, (ht j hj).2.1⟩))
 have AX : Hid (∀ j, j < 3 → Ro w1.heap.size w2 ((ER t).ax j)) := Lib.hid (fun j hj => by
  have h := (ht j hj).2.2
  obtain rfl | rfl | rfl : j = 0 ∨ j = 1 ∨ j = 2 := by omega
  all_goals exact h)
 have B12 : Hid (w1.heap.size ≤ w2.heap.size) := Lib.hid hb.size
 have AP : Hid (∀ j, j < 3 → ∀ b, w2.heap.size ≤ b → PY ((ER t).ax j) b) := Lib.hid (fun j hj b hb => by
  have h := (ht j hj).2.2.rw.VW (by rw [(ht j hj).1]; decide) (by rw [(ht j hj).2.1]; decide +kernel) hb
  obtain rfl | rfl | rfl : j = 0 ∨ j = 1 ∨ j = 2 := by omega
  all_goals exact h)
 clear ht hb hc
 generalize ER t = e0 at HE AX AP ⊢
 have TN := Lib.hid (oU w2 #[.int .i64 0, .int .i64 0, .int .i64 0, .int .i64 0, .int .i64 0, .int .i64 0, .slice none 0 0, .int .i64 0, .int .i64 0, .slice none 0 0, .int .i64 0, .int .i64 0, .slice none 0 0, .int .i64 0, .int .i64 0, .slice none 0 0, .int .i64 0, .int .i64 0, .slice none 0 0, .int .i64 0, .int .i64 0, .slice none 0 0, .int .i64 0, .int .i64 0, .int .i64 0, .int .i64 0, .int .i64 0, .int .i64 0, .bool false] e0.R 37 rfl)
 have TH : Hid ((w2.alloc (.cells #[.int .i64 0, .int .i64 0, .int .i64 0, .int .i64 0, .int .i64 0, .int .i64 0, .slice none 0 0, .int .i64 0, .int .i64 0, .slice none 0 0, .int .i64 0, .int .i64 0, .slice none 0 0, .int .i64 0, .int .i64 0, .slice none 0 0, .int .i64 0, .int .i64 0, .slice none 0 0, .int .i64 0, .int .i64 0, .slice none 0 0, .int .i64 0, .int .i64 0, .int .i64 0, .int .i64 0, .int .i64 0, .int .i64 0, .bool false] 37)).there w2.heap.size 0 e0.R.size) := Lib.hid (by have h := Row.there (Row.new w2 37 #[.int .i64 0, .int .i64 0, .int .i64 0, .int .i64 0, .int .i64 0, .int .i64 0, .slice none 0 0, .int .i64 0, .int .i64 0, .slice none 0 0, .int .i64 0, .int .i64 0, .slice none 0 0, .int .i64 0, .int .i64 0, .slice none 0 0, .int .i64 0, .int .i64 0, .slice none 0 0, .int .i64 0, .int .i64 0, .slice none 0 0, .int .i64 0, .int .i64 0, .int .i64 0, .int .i64 0, .int .i64 0, .int .i64 0, .bool false]); exact h)
 have i37 : Hid ((Try.prog.info? 37).map (·.size) = some e0.R.size) := Lib.hid (by kernel_rfl)
 have one : Hid (e0.R.all (·.oneCell') = true) := Lib.hid (by kernel_rfl)
 go_upto_region 2 with (with_reducible refine wpList_store_mid rfl 37 (.tmp 6) (.tmp 14) rfl w2.heap.size 0 e0.R rfl rfl TH.out i37.out one.out ?_)
 clear TH i37 one
 generalize (w2.alloc (.cells #[.int .i64 0, .int .i64 0, .int .i64 0, .int .i64 0, .int .i64 0, .int .i64 0, .slice none 0 0, .int .i64 0, .int .i64 0, .slice none 0 0, .int .i64 0, .int .i64 0, .slice none 0 0, .int .i64 0, .int .i64 0, .slice none 0 0, .int .i64 0, .int .i64 0, .slice none 0 0, .int .i64 0, .int .i64 0, .slice none 0 0, .int .i64 0, .int .i64 0, .int .i64 0, .int .i64 0, .int .i64 0, .int .i64 0, .bool false] 37)).setCells w2.heap.size 0 e0.R.toList = w3 at TN ⊢
 have L3 := Lib.hid (L2.out.below TN.out.2)
 have R6 := Lib.hid TN.out.1
 have AX3 : Hid (∀ j, j < 3 → Ro w1.heap.size w3 (e0.ax j)) := Lib.hid (fun j hj => (AX.out j hj).below TN.out.2)
 clear TN L2 AX
 generalize w2.heap.size = B6 at R6 B12 AP ⊢
 clear w2
 go_upto_region 3 with fail
 have L4 := Lib.hid (L3.out.alloc (.cells #[.slice none 0 0] 69))
 have R8 := Lib.hid (Boxed.new w3 69 (.slice none 0 0))
 have Y3 : Hid (Row (w3.alloc (.cells #[.slice none 0 0] 69)) B6 37 e0.R) := Lib.hid (R6.out.alloc _)
 have AX4 : Hid (∀ j, j < 3 → Ro w1.heap.size (w3.alloc (.cells #[.slice none 0 0] 69)) (e0.ax j)) := Lib.hid (fun j hj => (AX3.out j hj).alloc _)
 have HB : Hid (B6 < w3.heap.size) := Lib.hid R6.out.lt
 have S4 : Hid ((w3.alloc (.cells #[.slice none 0 0] 69)).heap.size = w3.heap.size + 1) := Lib.hid (by simp)
 clear R6 AX3 L3
 generalize w3.alloc (.cells #[.slice none 0 0] 69) = w4 at L4 R8 Y3 AX4 S4 ⊢
 generalize w3.heap.size = B8 at R8 HB S4 ⊢
 clear w3
 have hc := L4.out.r0.cell
 have RL6 := Lib.hid (Row.whole Y3.out)
 have i37 : Hid ((Try.prog.info? 37).map (·.size) = some e0.R.toList.length) := Lib.hid (by kernel_rfl)
 go_wp2_with (with_reducible refine OG.gV rfl 37 (.tmp 6) rfl B6 0 rfl e0.R.toList _ RL6.out Try.underlying37 rfl i37.out ?_)
 refine (Ef c e0 A log.length cp _).mono ?_
 rintro x w5 ⟨rfl, hw5⟩
 go_wp2
 have NW : Hid (Row (((w4.alloc (.cells c.row 24)).alloc (.cells e0.R 37)).alloc (.cells #[.slice A log.length cp] 57)) (B8 + 1) 24 c.row ∧ Row (((w4.alloc (.cells c.row 24)).alloc (.cells e0.R 37)).alloc (.cells #[.slice A log.length cp] 57)) (B8 + 1 + 1) 37 e0.R ∧ Row (((w4.alloc (.cells c.row 24)).alloc (.cells e0.R 37)).alloc (.cells #[.slice A log.length cp] 57)) (B8 + 1 + 1 + 1) 57 #[.slice A log.length cp] ∧ Below w4.heap.size w4 (((w4.alloc (.cells c.row 24)).alloc (.cells e0.R 37)).alloc (.cells #[.slice A log.length cp] 57)) ∧ (((w4.alloc (.cells c.row 24)).alloc (.cells e0.R 37)).alloc (.cells #[.slice A log.length cp] 57)).heap.size = B8 + 1 + 1 + 1 + 1) := Lib.hid (by
  have h := S4.out
  have r2 := Row.new (w4.alloc (.cells c.row 24)) 37 e0.R
  have r3 := Row.new ((w4.alloc (.cells c.row 24)).alloc (.cells e0.R 37)) 57 #[.slice A log.length cp]
  simp only [World.size_alloc, h] at r2 r3
  refine ⟨?_, r2.alloc _, r3, (((Below.refl _ _).alloc (Nat.le_refl _) _).alloc (by simp) _).alloc (by simp; omega) _, by simp [h]⟩
  rw [← h]
  exact ((Row.new w4 24 c.row).alloc _).alloc _)
 rw [S4.out]
 generalize (((w4.alloc (.cells c.row 24)).alloc (.cells e0.R 37)).alloc (.cells #[.slice A log.length cp] 57)) = w5 at NW ⊢
 have L5 := Lib.hid (L4.out.below NW.out.2.2.2.1)
 have R85 : Hid (Boxed w5 B8 69 (.slice none 0 0)) := Lib.hid ((NW.out.2.2.2.1.block B8 (by have := S4.out; omega)).trans R8.out)
 have R65 : Hid (Row w5 B6 37 e0.R) := Lib.hid (Y3.out.below NW.out.2.2.2.1 Y3.out.lt)
 have AX5 : Hid (∀ j, j < 3 → Ro w1.heap.size w5 (e0.ax j)) := Lib.hid (fun j hj => (AX4.out j hj).below NW.out.2.2.2.1)
 have RC := Lib.hid NW.out.1
 have RE := Lib.hid NW.out.2.1
 have RB := Lib.hid NW.out.2.2.1
 have S5 := Lib.hid NW.out.2.2.2.2
 have HW : Hid (w0.heap.size + 2 ≤ B6) := Lib.hid (by have h1 := L.out.r1.lt; have h2 := B12.out; omega)
 clear hw5 hc
 clear NW L4 R8 Y3 AX4 S4 i37 RL6 L
 clear w4
 refine G6 rfl (enters_of Try.func79 (by kernel_rfl) rfl) ?_
 intro fn rec hrec
 have SE := Lib.hid hrec
 have D6 : Hid (∀ l : Loop, Row ((w5.alloc (.deferred (some []))).alloc (.loop l)) (B8 + 1) 24 c.row ∧ Row ((w5.alloc (.deferred (some []))).alloc (.loop l)) (B8 + 1 + 1) 37 e0.R ∧ Row ((w5.alloc (.deferred (some []))).alloc (.loop l)) (B8 + 1 + 1 + 1) 57 #[.slice A log.length cp] ∧ (∀ j, j < 3 → Ro w1.heap.size ((w5.alloc (.deferred (some []))).alloc (.loop l)) (e0.ax j)) ∧ Jf N w0 w5.heap.size B6 B8 l 0 ((w5.alloc (.deferred (some []))).alloc (.loop l)) ∧ nR ((w5.alloc (.deferred (some []))).alloc (.loop l)) A log) := Lib.hid (fun l => by
  have hb : Below w5.heap.size w5 ((w5.alloc (.deferred (some []))).alloc (.loop l)) := ((Below.refl _ _).alloc (Nat.le_refl _) _).alloc (by simp) _
  have hb2 : Below w0.heap.size w0 ((w5.alloc (.deferred (some []))).alloc (.loop l)) := L5.out.be.trans (hb.mono L5.out.be.size)
  have hl1 := World.alloc_heap_new (w5.alloc (.deferred (some []))) (.loop l)
  rw [World.size_alloc] at hl1
  refine ⟨RC.out.below hb RC.out.lt, RE.out.below hb RE.out.lt, RB.out.below hb RB.out.lt, fun j hj => (AX5.out j hj).below hb, ⟨⟨e0, HE.out.trans H0.out.symm, R65.out.below hb R65.out.lt⟩, ⟨_, (hb.block B8 R85.out.lt).trans R85.out, World.ownsRow_nil _ _ _ _⟩, ⟨_, rfl, L5.out.r1.below hb L5.out.r1.lt⟩, hl1, (Below.heap_alloc _ _ _ (by simp)).trans (World.alloc_heap_new w5 _), hb2⟩, HL.out.below hb2⟩)
 generalize hD : w5.heap.size = D at D6 S5 SE hrec ⊢
 refine (Hy c log A cp N (D + 1) (B8 + 1 + 1 + 1) (B8 + 1) (B8 + 1 + 1) (Jf N w0 D B6 B8 (rec .ready none)) (Uf D B6 B8) (fun b => b < D ∧ b ≠ B6 ∧ b ≠ B8) _ e0 HG.out HS.out ?R ?PP ?ne (D6.out _).2.2.1 (D6.out _).1 (D6.out _).2.1 (HE.out.trans H0.out.symm) (fun j hj => ((D6.out _).2.2.2.1 j hj).rw) ?ap (D6.out _).2.2.2.2.2 (D6.out _).2.2.2.2.1).mono ?_
 case PP =>
  have h1 := S5.out
  have h2 := HB.out
  have h3 := HW.out
  exact ⟨by omega, by omega, by omega, fun hp ad e => by
   obtain ⟨b, o, e', hb, _⟩ := HL.out.at_ hp
   rw [e] at e'
   injection e' with e'
   subst e'
   have hb : b < w0.heap.size := hb
   show b < D ∧ b ≠ B6 ∧ b ≠ B8
   omega⟩
 case ne =>
  have h2 := HB.out
  have h3 := HW.out
  exact ⟨by omega, by omega, fun hp ad e => by
   obtain ⟨b, o, e', hb, _⟩ := HL.out.at_ hp
   rw [e] at e'
   injection e' with e'
   subst e'
   have hb : b < w0.heap.size := hb
   show b ≠ B8 + 1 + 1
   omega⟩
 case ap =>
  intro j hj b hu
  refine AP.out j hj b ?_
  have h1 := S5.out
  have h2 := HB.out
  rcases hu with rfl | rfl | rfl | ⟨v, hv, ho⟩
  · omega
  · omega
  · omega
  · obtain ⟨v', h8, hr⟩ := (D6.out (rec .ready none)).2.2.2.2.1.r8
    obtain rfl := Boxed.one hv h8
    have := (hr.lt b ho).1
    omega
 case R =>
  have h1 := S5.out
  have h2 := HB.out
  have h3 := HW.out
  refine ⟨fun k W b h hu => h.lt hu, fun k W b h hu => h.ne hu, fun k W W' h hb => h.below (by omega) (by omega) (by omega) hb, fun k W vs h => h.cells (by omega) (by omega) (by omega) _ (by omega) (by omega) (by omega) (by omega) vs, ?_⟩
  intro k x W hk hJ hx hax
  clear h1 h2 h3
  have hy := run_yield (P := Try.prog) (args := #[.agg x.R, .agg (yv (N (k + 1)))]) hJ.rl (by rw [hrec]; rfl)
  have JJ := Lib.hid hJ
  have HX := Lib.hid hx
  rw [hrec] at hy
  dsimp only at hy
  rw [abR] at hy
  simp only [List.setIfInBounds_toArray, List.set] at hy
  refine ⟨fn, _, _, _, hy, roundIn_of_wpIn trivial ?_⟩
  clear hy hJ hx hax hrec
  have TN := Lib.hid (oU W #[.int .i64 0, .int .i64 0, .int .i64 0, .int .i64 0, .int .i64 0, .int .i64 0, .slice none 0 0, .int .i64 0, .int .i64 0, .slice none 0 0, .int .i64 0, .int .i64 0, .slice none 0 0, .int .i64 0, .int .i64 0, .slice none 0 0, .int .i64 0, .int .i64 0, .slice none 0 0, .int .i64 0, .int .i64 0, .slice none 0 0, .int .i64 0, .int .i64 0, .int .i64 0, .int .i64 0, .int .i64 0, .int .i64 0, .bool false] x.R 37 rfl)
  have TH : Hid ((W.alloc (.cells #[.int .i64 0, .int .i64 0, .int .i64 0, .int .i64 0, .int .i64 0, .int .i64 0, .slice none 0 0, .int .i64 0, .int .i64 0, .slice none 0 0, .int .i64 0, .int .i64 0, .slice none 0 0, .int .i64 0, .int .i64 0, .slice none 0 0, .int .i64 0, .int .i64 0, .slice none 0 0, .int .i64 0, .int .i64 0, .slice none 0 0, .int .i64 0, .int .i64 0, .int .i64 0, .int .i64 0, .int .i64 0, .int .i64 0, .bool false] 37)).there W.heap.size 0 x.R.size) := Lib.hid (by have h := Row.there (Row.new W 37 #[.int .i64 0, .int .i64 0, .int .i64 0, .int .i64 0, .int .i64 0, .int .i64 0, .slice none 0 0, .int .i64 0, .int .i64 0, .slice none 0 0, .int .i64 0, .int .i64 0, .slice none 0 0, .int .i64 0, .int .i64 0, .slice none 0 0, .int .i64 0, .int .i64 0, .slice none 0 0, .int .i64 0, .int .i64 0, .slice none 0 0, .int .i64 0, .int .i64 0, .int .i64 0, .int .i64 0, .int .i64 0, .int .i64 0, .bool false]); exact h)
  have i37 : Hid ((Try.prog.info? 37).map (·.size) = some x.R.size) := Lib.hid (by kernel_rfl)
  have one : Hid (x.R.all (·.oneCell') = true) := Lib.hid (by kernel_rfl)
  refine La ?_
  intro KK hKK
  have EY : Hid (yv (N (k + 1)) = #[I ((N (k + 1)).x0.getD 0 0), I ((N (k + 1)).x1.getD 0 0), I ((N (k + 1)).x2.getD 0 0)]) := Lib.hid rfl
  generalize (N (k + 1)).x0.getD 0 0 = y0 at EY
  generalize (N (k + 1)).x1.getD 0 0 = y1 at EY
  generalize (N (k + 1)).x2.getD 0 0 = y2 at EY
  rw [EY.out]
  iterate 6 gi_step
  with_reducible refine lK rfl 37 (.tmp 9) (.tmp 20) rfl W.heap.size 0 x.R rfl rfl TH.out i37.out one.out ?_
  clear TH
  generalize (W.alloc (.cells #[.int .i64 0, .int .i64 0, .int .i64 0, .int .i64 0, .int .i64 0, .int .i64 0, .slice none 0 0, .int .i64 0, .int .i64 0, .slice none 0 0, .int .i64 0, .int .i64 0, .slice none 0 0, .int .i64 0, .int .i64 0, .slice none 0 0, .int .i64 0, .int .i64 0, .slice none 0 0, .int .i64 0, .int .i64 0, .slice none 0 0, .int .i64 0, .int .i64 0, .int .i64 0, .int .i64 0, .int .i64 0, .int .i64 0, .bool false] 37)).setCells W.heap.size 0 x.R.toList = Wa at TN ⊢
  simp only [Act.put]
  have YT := Lib.hid (oU Wa #[.int .i64 0, .int .i64 0, .int .i64 0] #[I y0, I y1, I y2] 42 rfl)
  have TH2 : Hid ((Wa.alloc (.cells #[.int .i64 0, .int .i64 0, .int .i64 0] 42)).there Wa.heap.size 0 #[I y0, I y1, I y2].size) := Lib.hid (by have h := Row.there (Row.new Wa 42 #[.int .i64 0, .int .i64 0, .int .i64 0]); exact h)
  iterate 7 gi_step
  with_reducible refine lK rfl 42 (.tmp 10) (.tmp 21) rfl Wa.heap.size 0 #[I y0, I y1, I y2] rfl rfl TH2.out (by kernel_rfl) (by kernel_rfl) ?_
  clear TH2
  generalize (Wa.alloc (.cells #[.int .i64 0, .int .i64 0, .int .i64 0] 42)).setCells Wa.heap.size 0 #[I y0, I y1, I y2].toList = Wb at YT ⊢
  simp only [Act.put]
  gi_step
  gi_step
  refine hKK.out _ _ ?_
  clear hKK
  clear KK
  have R9 : Hid (Row Wb W.heap.size 37 x.R) := Lib.hid (TN.out.1.below YT.out.2 TN.out.1.lt)
  have R10 := Lib.hid YT.out.1
  have BW : Hid (Below W.heap.size W Wb) := Lib.hid (TN.out.2.trans (YT.out.2.mono TN.out.2.size))
  have SA : Hid (W.heap.size < Wa.heap.size) := Lib.hid TN.out.1.lt
  clear TN YT
  generalize Wa.heap.size = z10 at R10 SA ⊢
  clear Wa i37 one
  have o1 := S5.out
  have o2 := HB.out
  have o3 := HW.out
  have JB := Lib.hid (JJ.out.below (by omega) (by omega) (by omega) BW.out)
  have hrr : (rec .ready none).state = .ready := by rw [SE.out]
  refine ⟨_, run_beginRound JB.out.1.rl hrr, ?_⟩
  have dlt : D + 1 < W.heap.size := JJ.out.lt (.inl rfl)
  have d6 : B6 < W.heap.size := JJ.out.lt (.inr (.inl rfl))
  have d8 : B8 < W.heap.size := JJ.out.lt (.inr (.inr (.inl rfl)))
  have KC : Hid (∀ b, b ≠ D + 1 → (Wb.putObj (D + 1) (.loop { rec .ready none with state := .busy })).heap[b]? = Wb.heap[b]?) := Lib.hid (fun b hb => World.putObj_heap_other hb)
  have LC : Hid ((Wb.putObj (D + 1) (.loop { rec .ready none with state := .busy })).heap[D + 1]? = some (.loop { rec .ready none with state := .busy })) := Lib.hid (World.putObj_heap_same (by have := BW.out.size; omega))
  have ZC : Hid ((Wb.putObj (D + 1) (.loop { rec .ready none with state := .busy })).heap.size = Wb.heap.size) := Lib.hid (by simp [World.putObj])
  have XC : Hid (Below w0.heap.size Wb (Wb.putObj (D + 1) (.loop { rec .ready none with state := .busy }))) := Lib.hid ⟨rfl, rfl, rfl, by simp [World.putObj], fun b hb => World.putObj_heap_other (by omega)⟩
  generalize Wb.putObj (D + 1) (.loop { rec .ready none with state := .busy }) = Wc at KC LC ZC XC ⊢
  have R9c : Hid (Row Wc W.heap.size 37 x.R) := Lib.hid ((KC.out _ (by omega)).trans R9.out)
  have Y4 : Hid (Row Wc z10 42 #[I y0, I y1, I y2]) := Lib.hid ((KC.out _ (by have := SA.out; omega)).trans R10.out)
  clear R9 R10
  obtain ⟨e6, _, r6⟩ := JB.out.1.r6
  obtain ⟨v, r8, rv⟩ := JB.out.1.r8
  have R6c : Hid (Row Wc B6 37 e6.R) := Lib.hid ((KC.out _ (by omega)).trans r6)
  have R8c : Hid (Boxed Wc B8 69 v) := Lib.hid ((KC.out _ (by omega)).trans r8)
  have RVc : Hid (Wc.ownsRow D 42 3 v k (outs N k)) := Lib.hid (gp rv (fun g hg => KC.out g (fun e => by
   rcases rv.2 with ⟨rfl, _⟩ | ⟨g', cap, cur, rfl, _, hgg, _⟩
   · simp [Value.ownBlock] at hg
   · obtain rfl : g' = g := by simpa [Value.ownBlock] using hg
     have h := JB.out.1.rl
     rw [← e, hgg] at h
     cases h)))
  clear r6 r8 rv hrr
  refine Lc ?_
  intro QQ hQQ
  have RL9 := Lib.hid (Row.whole R9c.out)
  have i37 : Hid ((Try.prog.info? 37).map (·.size) = some x.R.toList.length) := Lib.hid (by kernel_rfl)
  have xZ : Hid ((Try.prog.info? 37).map (·.size) = some x.R.size) := Lib.hid (by kernel_rfl)
  have one : Hid (x.R.all (·.oneCell') = true) := Lib.hid (by kernel_rfl)
  have TH6 : Hid (Wc.there B6 0 x.R.size) := Lib.hid (by have h := Row.there R6c.out; exact h)
  iterate 3 gi_step
  with_reducible refine qM rfl 37 (.tmp 9) rfl W.heap.size 0 rfl x.R.toList _ RL9.out Try.underlying37 rfl i37.out ?_
  simp only [Act.put, List.setIfInBounds_toArray, List.set, Array.toArray_toList]
  with_reducible refine lK rfl 37 (.tmp 6) (.tmp 22) rfl B6 0 x.R rfl rfl TH6.out xZ.out one.out ?_
  simp only [Act.put]
  have KD : Hid (∀ b, b ≠ B6 → (Wc.setCells B6 0 x.R.toList).heap[b]? = Wc.heap[b]?) := Lib.hid (fun b hb => OG.dA _ _ _ _ hb)
  have ZD : Hid (Wc.heap.size ≤ (Wc.setCells B6 0 x.R.toList).heap.size) := Lib.hid (iH x.R.toList 0 Wc : Wc.grownBy (Wc.setCells B6 0 x.R.toList) (some B6)).size
  have R6d : Hid (Row (Wc.setCells B6 0 x.R.toList) B6 37 x.R) := Lib.hid (Row.full R6c.out x.R rfl)
  have vo : Hid (∀ g, v.ownBlock = some g → D ≤ g ∧ g < Wc.heap.size) := Lib.hid (fun g hg => RVc.out.lt g hg)
  have XD : Hid (Below w0.heap.size Wc (Wc.setCells B6 0 x.R.toList)) := Lib.hid (KK.dF _ _ _ (Below.refl _ _) (by omega))
  generalize Wc.setCells B6 0 x.R.toList = Wd at KD ZD R6d XD ⊢
  have adh : Hid (Row Wd z10 42 #[I y0, I y1, I y2]) := Lib.hid ((KD.out _ (by have := SA.out; omega)).trans Y4.out)
  have R8d : Hid (Boxed Wd B8 69 v) := Lib.hid ((KD.out _ (by omega)).trans R8c.out)
  have RVd : Hid (Wd.ownsRow D 42 3 v k (outs N k)) := Lib.hid (gp RVc.out (fun g hg => KD.out g (by have := (vo.out g hg).1; omega)))
  clear Y4 R8c RVc R6c RL9 TH6 R9c i37 xZ one
  have hv8 : Wd.cell? ⟨B8, 0, none⟩ = some v := R8d.out.cell
  have c10 : ∀ i, Wd.cell? ⟨z10, i, none⟩ = #[I y0, I y1, I y2][i]? := adh.out.cell
  iterate 13 gi_step
  obtain ⟨i0, hi, hz0, hz1, hz2⟩ := info_parts (show (Try.prog.info? 42).map (fun i => (i.zero, i.size, i.bytes)) = some (some (.agg #[.int .i64 0, .int .i64 0, .int .i64 0]), 3, 24) by kernel_rfl)
  have hlen := HL.out.len
  have sD : Wd.heap.size ≤ (Wd.alloc (.cells #[I y0, I y1, I y2] 42)).heap.size := by simp
  have DW : D ≤ Wd.heap.size := by have := ZD.out; have := ZC.out; have := BW.out.size; omega
  with_reducible refine qU _ rfl (.tmp 23) (.tmp 25) 69 rfl D 42 i0 (.agg #[.int .i64 0, .int .i64 0, .int .i64 0]) 3 24 Try.underlying69 hi hz0 hz1 hz2 rfl (by decide) v k (outs N k) rfl (RVd.out.alloc _) ⟨Wd.heap.size, 0, none⟩ 1 1 [I y0, I y1, I y2] rfl rfl ?hc (by simp [Value.oneCell']) (by simp only [maxLen]; omega) (by omega) (by omega) ?_
  case hc =>
   intro j u hu
   have h := (Row.new Wd 42 #[I y0, I y1, I y2]).cell j
   have e : (⟨Wd.heap.size, 0, none⟩ : Addr).add j = ⟨Wd.heap.size, j, none⟩ := by
    simp [Addr.add]
    omega
   rw [e, h]
   simpa using hu
  intro v' w1' hown hgrow hwh
  obtain ⟨g', cap', rfl⟩ := ownsRow_succ hown
  have KE : Hid (∀ b, b < Wd.heap.size → v.ownBlock ≠ some b → w1'.heap[b]? = Wd.heap[b]?) := Lib.hid (fun b hb hn => (hgrow.block b (by simp; omega) (fun e => hn e.symm)).trans (Below.heap_alloc _ _ _ hb))
  have ZE : Hid (Wd.heap.size ≤ w1'.heap.size) := Lib.hid (by have := hgrow.size; omega)
  have XE : Hid (Below w0.heap.size Wd w1') := Lib.hid (((Below.refl _ Wd).alloc (by omega) _).grown hgrow (by simp; omega) (fun j ej => by have := (vo.out j ej).1; omega))
  have OW := Lib.hid hown
  have WH : Hid (v.ownBlock = some g' ∨ Wd.heap.size ≤ g') := Lib.hid ((hwh g' rfl).imp id (fun h => by rw [h]; exact sD))
  have R8e : Hid (Boxed w1' B8 69 v) := Lib.hid ((KE.out B8 R8d.out.lt (fun e => by have := (vo.out B8 e).1; omega)).trans R8d.out)
  clear hown hgrow hwh hi hz0 hz1 hz2 hv8 c10 sD
  have hv8 := R8e.out.cell
  have hf8 := R8e.out.frozen
  simp only [Act.put, List.setIfInBounds_toArray, List.set]
  repeat gi_step
  refine hQQ.out _ _ _ ?_
  clear hQQ
  clear QQ hv8 hf8
  have R8f : Hid (Boxed (w1'.setCell ⟨B8, 0, none⟩ (.slice (some ⟨g', 0, none⟩) (k + 1) cap')) B8 69 (.slice (some ⟨g', 0, none⟩) (k + 1) cap')) := Lib.hid (R8e.out.set _)
  have KF : Hid (∀ b, b ≠ B8 → (w1'.setCell ⟨B8, 0, none⟩ (.slice (some ⟨g', 0, none⟩) (k + 1) cap')).heap[b]? = w1'.heap[b]?) := Lib.hid (fun b hb => Below.heap_setCell w1' ⟨B8, 0, none⟩ _ b hb)
  have ZF : Hid (w1'.heap.size ≤ (w1'.setCell ⟨B8, 0, none⟩ (.slice (some ⟨g', 0, none⟩) (k + 1) cap')).heap.size) := Lib.hid (grownBy_setCell' w1' B8 _).size
  have XF : Hid (Below w0.heap.size w1' (w1'.setCell ⟨B8, 0, none⟩ (.slice (some ⟨g', 0, none⟩) (k + 1) cap'))) := Lib.hid ((Below.refl _ w1').setCell (p := ⟨B8, 0, none⟩) (show w0.heap.size ≤ B8 by omega) _)
  generalize w1'.setCell ⟨B8, 0, none⟩ (.slice (some ⟨g', 0, none⟩) (k + 1) cap') = Wf at R8f KF ZF XF ⊢
  have Ld1 : Hid (Wd.heap[D + 1]? = some (.loop { rec .ready none with state := .busy })) := Lib.hid ((KD.out _ (by omega)).trans LC.out)
  have Ld0 : Hid (Wd.heap[D]? = some (.deferred (some []))) := Lib.hid (((KD.out _ (by omega)).trans (KC.out _ (by omega))).trans JB.out.1.rd)
  have VB : Hid (∀ g, v.ownBlock = some g → g ≠ D + 1 ∧ g ≠ D) := Lib.hid (fun g hg => by
   rcases RVd.out.2 with ⟨rfl, _⟩ | ⟨g2, cap, cur, rfl, _, hgg, _⟩
   · simp [Value.ownBlock] at hg
   · obtain rfl : g2 = g := by simpa [Value.ownBlock] using hg
     refine ⟨fun e => ?_, fun e => ?_⟩
     · have h := Ld1.out
       rw [← e, hgg] at h
       cases h
     · have h := Ld0.out
       rw [← e, hgg] at h
       cases h)
  have sz1 : W.heap.size ≤ Wd.heap.size := by have := BW.out.size; have := ZC.out; have := ZD.out; omega
  have Lf1 : Hid (w1'.heap[D + 1]? = some (.loop { rec .ready none with state := .busy })) := Lib.hid ((KE.out _ (by omega) (fun e => (VB.out _ e).1 rfl)).trans Ld1.out)
  have gne : g' ≠ D + 1 := by
   rcases OW.out.2 with ⟨e, _⟩ | ⟨g2, cap, cur, e, _, hgg, _⟩
   · cases e
   · obtain rfl : g' = g2 := by injection e with e; injection e with e; injection e
     intro e
     have h := Lf1.out
     rw [← e, hgg] at h
     cases h
  have hDg : D ≤ g' := (OW.out.lt g' rfl).1
  have hl := (KF.out (D + 1) (by omega)).trans Lf1.out
  have hend : (Instr.endRound (D + 1) none).run Try.prog Wf = .ok (.bool true) (Wf.putObj (D + 1) (.loop (rec .ready none))) := by
   have h := run_endRound (P := Try.prog) none hl
   rw [SE.out] at h ⊢
   exact h
  refine ⟨_, _, hend, rfl, ?_⟩
  clear hend
  have KG : Hid (∀ b, b ≠ D + 1 → (Wf.putObj (D + 1) (.loop (rec .ready none))).heap[b]? = Wf.heap[b]?) := Lib.hid (fun b hb => World.putObj_heap_other hb)
  have LG : Hid ((Wf.putObj (D + 1) (.loop (rec .ready none))).heap[D + 1]? = some (.loop (rec .ready none))) := Lib.hid (World.putObj_heap_same (Array.getElem?_eq_some_iff.1 hl).1)
  have ZG : Hid ((Wf.putObj (D + 1) (.loop (rec .ready none))).heap.size = Wf.heap.size) := Lib.hid (by simp [World.putObj])
  clear hl
  have XG : Hid (Below w0.heap.size Wf (Wf.putObj (D + 1) (.loop (rec .ready none)))) := Lib.hid ⟨rfl, rfl, rfl, by simp [World.putObj], fun b hb => World.putObj_heap_other (by omega)⟩
  generalize Wf.putObj (D + 1) (.loop (rec .ready none)) = Wg at KG LG ZG XG ⊢
  have sz2 : W.heap.size ≤ Wg.heap.size := by have := ZG.out; have := ZF.out; have := ZE.out; omega
  have TOT : ∀ b, b < W.heap.size → b ≠ D + 1 → b ≠ B6 → b ≠ B8 → v.ownBlock ≠ some b → Wg.heap[b]? = W.heap[b]? := fun b hb n1 n6 n8 nv =>
   ((((((KG.out b n1).trans (KF.out b n8)).trans (KE.out b (by omega) nv)).trans (KD.out b n6)).trans (KC.out b n1)).trans (BW.out.block b hb))
  have R8W : Boxed W B8 69 v := (((BW.out.block B8 d8).symm.trans (KC.out B8 (by omega)).symm).trans (KD.out B8 (by omega)).symm).trans R8d.out
  have Xu : ∀ b, b < D → v.ownBlock ≠ some b := fun b hb e => by have := (vo.out b e).1; omega
  refine ⟨⟨⟨x, HX.out, ?_⟩, ⟨_, (KG.out B8 (by omega)).trans R8f.out, ?_⟩, ?_, LG.out, ?_, ?_⟩, sz2, ?_, ?_⟩
  · exact (((KG.out B6 (by omega)).trans (KF.out B6 (by omega))).trans (KE.out B6 (by omega) (Xu _ (by omega)))).trans R6d.out
  · rw [Kz, EY.out]
    exact gp OW.out (fun g hg => by
     obtain rfl : g' = g := by simpa [Value.ownBlock] using hg
     exact (KG.out g' gne).trans (KF.out g' (by omega)))
  · obtain ⟨a, ha, r4⟩ := JJ.out.r4
    exact ⟨a, ha, (TOT _ (by omega) (by omega) (by omega) (by omega) (Xu _ (by omega))).trans r4⟩
  · exact (TOT D (by omega) (by omega) (by omega) (by omega) (fun e => (VB.out _ e).2 rfl)).trans JJ.out.rd
  · exact ((((JB.out.1.be.trans XC.out).trans XD.out).trans XE.out).trans XF.out).trans XG.out
  · intro b hb hn
    exact TOT b hb (fun e => hn (.inl e)) (fun e => hn (.inr (.inl e))) (fun e => hn (.inr (.inr (.inl e)))) (fun e => hn (.inr (.inr (.inr ⟨v, R8W, e⟩))))
  · rintro b (e | e | e | ⟨u, hu, ho⟩)
    · exact .inl (.inl e)
    · exact .inl (.inr (.inl e))
    · exact .inl (.inr (.inr (.inl e)))
    · obtain rfl := Boxed.one hu ((KG.out B8 (by omega)).trans R8f.out : Boxed Wg B8 69 _)
      obtain rfl : g' = b := by simpa [Value.ownBlock] using ho
      rcases WH.out with h | h
      · exact .inl (.inr (.inr (.inr ⟨v, R8W, h⟩)))
      · exact .inr (by omega)
 rintro e w0' ⟨rfl, hJ⟩
 refine ⟨⟨_, rfl⟩, hJ.rl, ?_⟩
 have o1 := S5.out
 have o2 := HB.out
 have o3 := HW.out
 have KG : Hid (∀ b, b ≠ D + 1 → (w0'.putObj (D + 1) (.loop (rec .exhausted none))).heap[b]? = w0'.heap[b]?) := Lib.hid (fun b hb => World.putObj_heap_other hb)
 have XG : Hid (Below w0.heap.size w0 (w0'.putObj (D + 1) (.loop (rec .exhausted none)))) := Lib.hid (hJ.be.trans ⟨rfl, rfl, rfl, by simp [World.putObj], fun b hb => World.putObj_heap_other (by omega)⟩)
 have JJ := Lib.hid hJ
 clear hJ hrec
 clear SE
 dsimp only
 generalize w0'.putObj (D + 1) (.loop (rec .exhausted none)) = W at KG XG ⊢
 obtain ⟨e, he, r6⟩ := JJ.out.r6
 obtain ⟨v, r8, rv⟩ := JJ.out.r8
 obtain ⟨a0, ha, r4⟩ := JJ.out.r4
 have EN := Lib.hid he
 have R6 : Hid (Row W B6 37 e.R) := Lib.hid ((KG.out _ (by omega)).trans r6)
 have R8 : Hid (Boxed W B8 69 v) := Lib.hid ((KG.out _ (by omega)).trans r8)
 have R4 : Hid (Row W (w0.heap.size + 1) 37 a0) := Lib.hid ((KG.out _ (by omega)).trans r4)
 have RD : Hid (W.heap[D]? = some (.deferred (some []))) := Lib.hid ((KG.out _ (by omega)).trans JJ.out.rd)
 have RV : Hid (W.ownsRow D 42 3 v log.length (outs N log.length)) := Lib.hid (gp rv (fun g hg => KG.out g (fun e' => by
  rcases rv.2 with ⟨rfl, _⟩ | ⟨g2, cap, cur, rfl, _, hgg, _⟩
  · simp [Value.ownBlock] at hg
  · obtain rfl : g2 = g := by simpa [Value.ownBlock] using hg
    have h := JJ.out.rl
    rw [← e', hgg] at h
    cases h)))
 clear he r6 r8 r4 rv KG JJ D6 R85 R65 AX5 RC RE RB L5
 have RL6 := Lib.hid (Row.whole R6.out)
 have i37 : Hid ((Try.prog.info? 37).map (·.size) = some e.R.toList.length) := Lib.hid (by kernel_rfl)
 have xZ : Hid ((Try.prog.info? 37).map (·.size) = some e.R.size) := Lib.hid (by kernel_rfl)
 have one : Hid (e.R.all (·.oneCell') = true) := Lib.hid (by kernel_rfl)
 have TH4 : Hid (W.there (w0.heap.size + 1) 0 e.R.size) := Lib.hid (by have h := Row.there R4.out; rw [ha] at h; exact h)
 have HA : Hid (a0.size = e.R.size) := Lib.hid ha
 have O8 := Lib.hid (And.intro o1 (And.intro o2 o3))
 clear o1 o2 o3
 go_upto_region 8 with fail
 refine OG.fF (by kernel_rfl) (fun l a w => a = { tmps := List.toArray (Value.agg c.row :: Value.slice A log.length cp :: Value.pointer (some ⟨w0.heap.size, 0, none⟩) :: undef :: Value.pointer (some ⟨w0.heap.size + 1, 0, none⟩) :: (bif l 3 then v else .slice none 0 0) :: Value.pointer (some ⟨B6, 0, none⟩) :: I 0 :: Value.pointer (some ⟨B8, 0, none⟩) :: undef :: undef :: Value.tuple #[Value.agg e0.R, I 0] :: Value.agg c.row :: Value.tuple #[Value.agg e0.R, I 0] :: Value.agg e0.R :: I 0 :: Value.agg c.row :: Value.agg e0.R :: Value.slice A log.length cp :: Value.func (Fn.func 79) #[] #[Value.pointer (some ⟨B8 + 1 + 1 + 1, 0, none⟩), Value.pointer (some ⟨B8 + 1, 0, none⟩), Value.pointer (some ⟨B8 + 1 + 1, 0, none⟩)] :: undef :: undef :: undef :: undef :: undef :: undef :: undef :: (bif l 0 then .agg e.R else undef) :: (bif l 1 then v else undef) :: []), defers := [{ target := .collected D, args := #[] }] } ∧ (Row w B6 37 e.R) ∧ (Boxed w B8 69 v) ∧ (Row w (w0.heap.size + 1) 37 (bif l 2 then e.R else a0)) ∧ (w.heap[D]? = some (.deferred (some []))) ∧ (w.ownsRow D 42 3 v log.length (outs N log.length)) ∧ (Below w0.heap.size w0 w)) (by kernel_rfl) ?s0 ?ss ?se
 case s0 => exact ⟨rfl, R6.out, R8.out, R4.out, RD.out, RV.out, XG.out.drew⟩
 case ss =>
  refine OG.Steps.cons rfl (fun l a w K hK hJ hcl h0 hd => ?_) (OG.Steps.cons rfl (fun l a w K hK hJ hcl h0 hd => ?_) (OG.Steps.cons rfl (fun l a w K hK hJ hcl h0 hd => ?_) (OG.Steps.cons rfl (fun l a w K hK hJ hcl h0 hd => ?_) OG.Steps.nil)))
  · obtain ⟨rfl, hP0, hP1, hP2, hP3, je, Jq⟩ := hJ
    have HJ := Lib.hid (And.intro hP0 (And.intro hP1 (And.intro hP2 (And.intro hP3 (And.intro je (Jq))))))
    clear hP0 hP1 hP2 hP3 je Jq hd hcl h0
    refine wp_load_mid 37 (.tmp 6) rfl B6 0 rfl e.R.toList _ (Row.whole HJ.out.1) Try.underlying37 rfl i37.out ?_
    exact hK.out _ _ ⟨(rfl), (HJ.out.1), (HJ.out.2.1), (HJ.out.2.2.1), (HJ.out.2.2.2.1), (HJ.out.2.2.2.2.1), (HJ.out.2.2.2.2.2)⟩
  · obtain ⟨rfl, hP0, hP1, hP2, hP3, je, Jq⟩ := hJ
    have HJ := Lib.hid (And.intro hP0 (And.intro hP1 (And.intro hP2 (And.intro hP3 (And.intro je (Jq))))))
    clear hP0 hP1 hP2 hP3 je Jq hd hcl h0
    have hv8 := HJ.out.2.1.cell
    go_simp
    exact hK.out _ _ ⟨(rfl), (HJ.out.1), (HJ.out.2.1), (HJ.out.2.2.1), (HJ.out.2.2.2.1), (HJ.out.2.2.2.2.1), (HJ.out.2.2.2.2.2)⟩
  · obtain ⟨rfl, hP0, hP1, hP2, hP3, je, Jq⟩ := hJ
    have d0 := hd.get 0 (by rfl)
    have HJ := Lib.hid (And.intro hP0 (And.intro hP1 (And.intro hP2 (And.intro hP3 (And.intro je (Jq))))))
    clear hP0 hP1 hP2 hP3 je Jq hd hcl h0
    have h3 : w.there (w0.heap.size + 1) 0 e.R.size := by
     have h := Row.there HJ.out.2.2.1
     cases h2 : l 2 <;> rw [h2] at h
     · rw [show (bif false then e.R else a0) = a0 from rfl, HA.out] at h; exact h
     · exact h
    refine wp_store_mid 37 (.tmp 4) (.tmp 27) rfl (w0.heap.size + 1) 0 e.R rfl (by show cond (l 0) _ _ = _; rw [d0]; rfl) h3 xZ.out one.out ?_
    exact hK.out _ _ ⟨(by simp only [OG.upd, d0]; rfl), ((OG.dA _ _ _ _ (by have := O8.out; omega)).trans HJ.out.1), ((OG.dA _ _ _ _ (by have := O8.out; omega)).trans HJ.out.2.1), (Row.full HJ.out.2.2.1 e.R (by cases l 2; exact HA.out.symm; rfl)), ((OG.dA _ _ _ _ (by have := O8.out; omega)).trans HJ.out.2.2.2.1), (gp HJ.out.2.2.2.2.1 (fun g hg => OG.dA _ _ _ _ (by have := O8.out; have := (World.ownsRow.lt HJ.out.2.2.2.2.1 g hg).1; omega))), (KK.dF _ _ _ HJ.out.2.2.2.2.2 (by have := O8.out; omega))⟩
  · obtain ⟨rfl, hP0, hP1, hP2, hP3, je, Jq⟩ := hJ
    have d1 := hd.get 1 (by rfl)
    have HJ := Lib.hid (And.intro hP0 (And.intro hP1 (And.intro hP2 (And.intro hP3 (And.intro je (Jq))))))
    clear hP0 hP1 hP2 hP3 je Jq hd hcl h0
    go_simp
    exact hK.out _ _ ⟨(by simp only [OG.upd, d1]; rfl), (HJ.out.1), (HJ.out.2.1), (HJ.out.2.2.1), (HJ.out.2.2.2.1), (HJ.out.2.2.2.2.1), (HJ.out.2.2.2.2.2)⟩
 case se =>
  intro l a w hJ he
  obtain ⟨rfl, hP0, hP1, hP2, hP3, je, Jq⟩ := hJ
  rw [he 0 (by decide), he 1 (by decide), he 3 (by decide)]
  rw [he 2 (by decide)] at hP2
  clear he
  simp only [cond_true] at hP2 ⊢
  have LL := Lib.hid (And.intro hP2 (And.intro hP3 (And.intro je Jq)))
  clear hP0 hP1 hP2 hP3 je Jq R6 R8 R4 RD RV XG
  go_wp2
  refine ⟨by simp, .inl ⟨_, _, rfl, run_takeDeferred LL.out.2.1, ?_⟩⟩
  have R4f : Row (w.putObj D (.deferred none)) (w0.heap.size + 1) 37 e.R := (World.putObj_heap_other (by have := O8.out; omega)).trans LL.out.1
  refine ⟨_, rF rfl _ _ (w0.heap.size + 1) e.R _ rfl (Row.whole R4f) Try.underlying37 rfl (by kernel_rfl), e, v, EN.out, rfl, ?_, ?_⟩
  · have h := ownsRow_putObj LL.out.2.2.1 (.deferred none) LL.out.2.1 rfl
    exact ⟨h.1, h.2.imp id (fun ⟨g, cap, cur, e', hb, r⟩ => ⟨g, cap, cur, e', by have := O8.out; omega, r⟩)⟩
  · exact LL.out.2.2.2.trans ⟨rfl, rfl, rfl, by simp [World.putObj], fun b hb => World.putObj_heap_other (by have := O8.out; omega)⟩
end Go.Proofs.Ytnijhjbcjeohhaa.BB

namespace Go.Proofs.Ytnijhjbcjeohhaa.BB
open Go.RowKit Go.Proofs.Ytnijhjbcjeohhaa.KK Go.Proofs.Ytnijhjbcjeohhaa.EE Go.Proofs.af.aA Go.Proofs.af.aN Go.Proofs.af.aP
set_option linter.unusedVariables false
set_option linter.unusedSimpArgs false
section
variable {P : Program}
theorem kV (w : World) (d : Nat) (xs ys : Array Value) (f : Field) (fs : List Field) (x y : Value) (r1 r2 : Bool) (hn : f.name ≠ "_") (px : (part f.type xs f.offset).run P w = .ok x w) (py : (part f.type ys f.offset).run P w = .ok y w)
 (pe : (Op.equalIn d f.type x y).run P w = .ok r1 w) (h : (Op.eqFields d xs ys fs).run P w = .ok r2 w) : (Op.eqFields d xs ys (f :: fs)).run P w = .ok (r1 && r2) w := by
 simp only [Op.eqFields, hn, ne_eq, not_false_eq_true, if_true, Sem.run_bind, px, py, pe, Result.andThen_ok]
 cases r1
 · simp
 · simpa using h
end
theorem Dk (xs : Array Value) (k : Nat) (x : Int) (h : xs[k]? = some (.int .i64 x)) (w : World) : (part 22 xs k).run Try.prog w = .ok (.int .i64 x) w := by
 simp [part, go_sem, h]
theorem Tm (xs : Array Value) (k : Nat) (x : Int) (h : xs[k]? = some (.int .i64 x)) (w : World) : (part 2 xs k).run Try.prog w = .ok (.int .i64 x) w := by
 simp [part, go_sem, h]
theorem Bc (xs : Array Value) (k : Nat) (x : Bool) (h : xs[k]? = some (.bool x)) (w : World) : (part 4 xs k).run Try.prog w = .ok (.bool x) w := by
 simp [part, go_sem, h]
theorem rH (xs : Array Value) (k : Nat) (cs : Array Value) (h : xs.extract k (k + 3) = cs) (w : World) : (part 42 xs k).run Try.prog w = .ok (.agg cs) w := by
 simp [part, go_sem, h]
theorem rP (d : Nat) (a e : Int) (xs ys : Array Value) (k : Nat) (hx : xs[k]? = some (.int .i64 a)) (hy : ys[k]? = some (.int .i64 e)) (ks : List Nat) (r : Bool) (w : World)
 (h : (Op.eqItems (d + 1) 22 1 xs ys ks).run Try.prog w = .ok r w) : (Op.eqItems (d + 1) 22 1 xs ys (k :: ks)).run Try.prog w = .ok ((a == e) && r) w := by
 have p1 := Dk xs (k * 1) a (by simpa using hx) w
 have p2 := Dk ys (k * 1) e (by simpa using hy) w
 have p3 := run_equalIn_int w (P := Try.prog) d 22 .i64 .i64 a e rfl
 simp only [Op.eqItems, Sem.run_bind, p1, p2, p3, Result.andThen_ok]
 cases hr : (a == e)
 · simp
 · simpa using h
def v3 (a b c e f g : Int) : Bool := (a == e) && ((b == f) && ((c == g) && true))
theorem Ig (d : Nat) (a b c e f g : Int) (w : World) :
 (Op.equalIn (d + 1 + 1) 42 (.agg #[.int .i64 a, .int .i64 b, .int .i64 c]) (.agg #[.int .i64 e, .int .i64 f, .int .i64 g])).run Try.prog w = .ok (v3 a b c e f g) w := by
 rw [run_equalIn_array (P := Try.prog) (w := w) (d + 1) (e := 22) (n := 3) (i := _) _ _ rfl rfl]
 exact rP d _ _ _ _ 0 rfl rfl _ _ w (rP d _ _ _ _ 1 rfl rfl _ _ w (rP d _ _ _ _ 2 rfl rfl _ _ w (by simp [Op.eqItems])))
def MK (s t : Sm) : Bool := (s.missing == t.missing) && (v3 s.g0 s.g1 s.g2 t.g0 t.g1 t.g2 && (v3 s.a0 s.a1 s.a2 t.a0 t.a1 t.a2 && ((s.hasB == t.hasB) && ((s.dJ == t.dJ) && ((s.pK == t.pK) && (v3 s.n0 s.n1 s.n2 t.n0 t.n1 t.n2 && true))))))
theorem yF {a b c e f g : Int} : v3 a b c e f g = true ↔ a = e ∧ b = f ∧ c = g := by simp [v3]
theorem sS {s t : Sm} : MK s t = true ↔ s = t := by
 obtain ⟨a, b1, b2, b3, c1, c2, c3, d, e, f, g1, g2, g3⟩ := s
 obtain ⟨a', b1', b2', b3', c1', c2', c3', d', e', f', g1', g2', g3'⟩ := t
 simp only [MK, Bool.and_eq_true, yF, beq_iff_eq, Sm.mk.injEq, and_true]
 constructor
 · rintro ⟨h1, ⟨h2, h3, h4⟩, ⟨h5, h6, h7⟩, h8, h9, h10, h11, h12, h13⟩
   exact ⟨h1, h2, h3, h4, h5, h6, h7, h8, h9, h10, h11, h12, h13⟩
 · rintro ⟨h1, h2, h3, h4, h5, h6, h7, h8, h9, h10, h11, h12, h13⟩
   exact ⟨h1, ⟨h2, h3, h4⟩, ⟨h5, h6, h7⟩, h8, h9, h10, h11, h12, h13⟩
theorem VG (s t : Sm) (w : World) : (Op.equalIn 10000 46 (.agg s.R) (.agg t.R)).run Try.prog w = .ok (MK s t) w := by
 have hF : Try.prog.underlying 46 = some (.struct (Try.prog.fieldsOf 46)) := by simp only [Program.fieldsOf, Try.underlying46]
 rw [run_equalIn_struct (P := Try.prog) w 9999 46 s.R t.R hF (by kernel_rfl)]
 simp only [Program.fieldsOf, Try.underlying46]
 refine kV w 9999 _ _ _ _ _ _ _ _ (by decide) (Bc _ 0 s.missing rfl w) (Bc _ 0 t.missing rfl w) (run_equalIn_bool w 9998 4 _ _ Try.underlying4) ?_
 refine kV w 9999 _ _ _ _ _ _ _ _ (by decide) (rH _ 1 #[I s.g0, I s.g1, I s.g2] rfl w) (rH _ 1 #[I t.g0, I t.g1, I t.g2] rfl w) (Ig 9997 _ _ _ _ _ _ w) ?_
 refine kV w 9999 _ _ _ _ _ _ _ _ (by decide) (rH _ 4 #[I s.a0, I s.a1, I s.a2] rfl w) (rH _ 4 #[I t.a0, I t.a1, I t.a2] rfl w) (Ig 9997 _ _ _ _ _ _ w) ?_
 refine kV w 9999 _ _ _ _ _ _ _ _ (by decide) (Bc _ 7 s.hasB rfl w) (Bc _ 7 t.hasB rfl w) (run_equalIn_bool w 9998 4 _ _ Try.underlying4) ?_
 refine kV w 9999 _ _ _ _ _ _ _ _ (by decide) (Dk _ 8 s.dJ rfl w) (Dk _ 8 t.dJ rfl w) (run_equalIn_int w 9998 22 .i64 .i64 _ _ rfl) ?_
 refine kV w 9999 _ _ _ _ _ _ _ _ (by decide) (Bc _ 9 s.pK rfl w) (Bc _ 9 t.pK rfl w) (run_equalIn_bool w 9998 4 _ _ Try.underlying4) ?_
 refine kV w 9999 _ _ _ _ _ _ _ _ (by decide) (rH _ 10 #[I s.n0, I s.n1, I s.n2] rfl w) (rH _ 10 #[I t.n0, I t.n1, I t.n2] rfl w) (Ig 9997 _ _ _ _ _ _ w) ?_
 simp [Op.eqFields]
theorem CU {P : Program} {o : Oper} {a : Act} {w : World} {K : Act → World → Prop} {Q : Exit → Act → World → Prop} (ty t2 : TypeId) (x y : Operand) (ho : o.op = .binOp .neq ty x y t2) (cx cy : Array Value) (hx : a.eval x = .agg cx) (hy : a.eval y = .agg cy)
 (hg : P.eqGuardType P.depth ty = false) (r : Bool) (he : (Op.equalIn 10000 ty (.agg cx) (.agg cy)).run P w = .ok r w) (h : K (a.put o.dst (.bool (!r))) w) : o.wp P a w K Q := by
 have he' : (Op.equal ty (.agg cx) (.agg cy)).run P w = .ok r w := he
 unfold Oper.wp execOp
 simp only [ho, hx, hy, eqGuard, Sem.run_bind, run_program, hg, binOp, he', Sem.run_pure, Result.andThen_ok, Bool.not_false, if_true, Bool.not_true, if_false, Bool.false_eq_true, ↓reduceIte]
 exact h
theorem zl : Try.prog.eqGuardType Try.prog.depth 46 = false := by kernel_rfl
theorem Ov : Try.prog.eqGuardType Try.prog.depth 42 = false := by kernel_rfl
end Go.Proofs.Ytnijhjbcjeohhaa.BB

namespace Go.Proofs.Ytnijhjbcjeohhaa.BB
open Go.RowKit Go.Proofs.Ytnijhjbcjeohhaa.KK Go.Proofs.Ytnijhjbcjeohhaa.EE Go.Proofs.af.aA Go.Proofs.af.aN Go.Proofs.af.aP
set_option linter.unusedVariables false
set_option linter.unusedSimpArgs false
theorem Fv (a0 b0 : List Sm) (A B : Option Addr) (ca cb : Nat) (w : World) (ha : nR w A a0) (hb : nR w B b0) :
 Calls Try.prog 51 #[.slice A a0.length ca, .slice B b0.length cb] w fun x w' => ∃ r : Bool, x = .returned (.bool r) ∧ (r = true ↔ a0 = b0) ∧ Below w.heap.size w w' := by
 have HA := Lib.hid ha
 have HB := Lib.hid hb
 have la : Hid (a0.length ≤ 1000000) := Lib.hid ha.len
 clear ha hb
 go_enter Try.func51, Try.ntmps51
 by_cases hl : a0.length = b0.length
 case neg =>
  have hd : ((a0.length : Int) != (b0.length : Int)) = true := by rw [bne_iff_ne]; omega
  go_wp2
  go_ret
  exact ⟨false, rfl, ⟨fun h => (by cases h), fun e => absurd (congrArg List.length e) hl⟩, Below.refl _ _⟩
 case pos =>
  have hd : ((a0.length : Int) != (b0.length : Int)) = false := by simp [hl]
  have HL := Lib.hid hl
  clear hl
  go_wp2
  clear hd
  go_loopw [13] (fun i wr => ∃ k : Nat, k ≤ a0.length ∧ i = .int .i64 k ∧ Hid (Below w.heap.size w wr ∧ ∀ j, j < k → a0[j]? = b0[j]?)) (fun i _ => a0.length - (intOf i).toNat)
  case atStart => exact ⟨0, by omega, rfl, Below.refl _ _, fun j hj => by omega⟩
  case round =>
   obtain ⟨k, hk, rfl, F⟩ := hrel
   obtain rfl | hlt : k = a0.length ∨ k < a0.length := by omega
   · go_wp2
     go_ret
     refine ⟨true, rfl, ⟨fun _ => ?_, fun _ => rfl⟩, F.out.1⟩
     apply List.ext_getElem?
     intro j
     by_cases hj : j < a0.length
     · exact F.out.2 j hj
     · rw [List.getElem?_eq_none (by omega), List.getElem?_eq_none (by have := HL.out; omega)]
   · have hlb : k < b0.length := by have := HL.out; omega
     obtain ⟨s, hs⟩ : ∃ s, a0[k]? = some s := ⟨_, List.getElem?_eq_getElem hlt⟩
     obtain ⟨t, ht⟩ : ∃ t, b0[k]? = some t := ⟨_, List.getElem?_eq_getElem hlb⟩
     obtain ⟨b1, o1, rfl, _, h1⟩ := HA.out.at_ (by omega)
     obtain ⟨b2, o2, rfl, _, h2⟩ := HB.out.at_ (by omega)
     have H1 : Hid (wr.drew.rangeAt b1 (o1 + k * 13) s.R.toList) := Lib.hid (fun j v hj => ((nR.below HA.out F.out.1).at_ (by omega)).elim (fun b' h => by obtain ⟨o', e, _, hh⟩ := h; injection e with e; injection e with e1 e2 e3; subst e1 e2; exact hh k s hs j v hj))
     have H2 : Hid (wr.drew.rangeAt b2 (o2 + k * 13) t.R.toList) := Lib.hid (fun j v hj => ((nR.below HB.out F.out.1).at_ (by omega)).elim (fun b' h => by obtain ⟨o', e, _, hh⟩ := h; injection e with e; injection e with e1 e2 e3; subst e1 e2; exact hh k t ht j v hj))
     have i46 : Hid ((Try.prog.info? 46).map (·.size) = some 13) := Lib.hid (by kernel_rfl)
     have HST := Lib.hid (And.intro hs ht)
     have fO := Lib.hid hlt
     have SG := Lib.hid hlb
     have hd : decide ((k : Int) < (a0.length : Int)) = true := decide_eq_true (by omega)
     clear h1 h2 hs ht hlt hlb hk
     go_upto_region 6 with fail
     clear hd
     rw [show decide (k < a0.length) = true from decide_eq_true fO.out]
     refine OG.fF (by kernel_rfl) (fun l a w => a = { tmps := List.toArray (Value.slice (some ⟨b1, o1, none⟩) a0.length ca :: Value.slice (some ⟨b2, o2, none⟩) b0.length cb :: undef :: undef :: u4 :: Value.int .i64 (k : Int) :: Value.slice (some ⟨b1, o1, none⟩) a0.length ca :: Value.int .i64 (a0.length : Int) :: Value.slice (some ⟨b2, o2, none⟩) b0.length cb :: Value.int .i64 (b0.length : Int) :: Value.bool false :: Value.slice (some ⟨b1, o1, none⟩) a0.length ca :: Value.int .i64 (a0.length : Int) :: Value.int .i64 (k : Int) :: Value.bool true :: Value.int .i64 (k : Int) :: (bif l 0 then Value.slice (some ⟨b1, o1, none⟩) a0.length ca else u16) :: (bif l 1 then Value.int .i64 (k : Int) else u17) :: (bif l 2 then Value.pointer (some ⟨b1, o1 + k * 13, none⟩) else u18) :: (bif l 3 then .agg s.R else u19) :: (bif l 4 then Value.slice (some ⟨b2, o2, none⟩) b0.length cb else u20) :: (bif l 5 then Value.int .i64 (k : Int) else u21) :: (bif l 6 then Value.pointer (some ⟨b2, o2 + k * 13, none⟩) else u22) :: (bif l 7 then .agg t.R else u23) :: (bif l 8 then .bool (!MK s t) else u24) :: u25 :: []), defers := [] } ∧ (w = wr.drew)) (by kernel_rfl) ?s0 ?ss ?se
     case s0 => exact ⟨rfl, rfl⟩
     case ss =>
      refine OG.Steps.cons rfl (fun l a w K hK hJ hcl h0 hd => ?_) (OG.Steps.cons rfl (fun l a w K hK hJ hcl h0 hd => ?_) (OG.Steps.cons rfl (fun l a w K hK hJ hcl h0 hd => ?_) (OG.Steps.cons rfl (fun l a w K hK hJ hcl h0 hd => ?_) (OG.Steps.cons rfl (fun l a w K hK hJ hcl h0 hd => ?_) (OG.Steps.cons rfl (fun l a w K hK hJ hcl h0 hd => ?_) (OG.Steps.cons rfl (fun l a w K hK hJ hcl h0 hd => ?_) (OG.Steps.cons rfl (fun l a w K hK hJ hcl h0 hd => ?_) (OG.Steps.cons rfl (fun l a w K hK hJ hcl h0 hd => ?_) OG.Steps.nil))))))))
      · obtain ⟨rfl, hP0⟩ := hJ
        have HJ := Lib.hid (hP0)
        clear hP0 hd hcl h0
        go_simp
        exact hK.out _ _ ⟨(rfl), (HJ.out)⟩
      · obtain ⟨rfl, hP0⟩ := hJ
        have HJ := Lib.hid (hP0)
        clear hP0 hd hcl h0
        go_simp
        exact hK.out _ _ ⟨(rfl), (HJ.out)⟩
      · obtain ⟨rfl, hP0⟩ := hJ
        have d0 := hd.get 0 (by rfl)
        have d1 := hd.get 1 (by rfl)
        have HJ := Lib.hid (hP0)
        clear hP0 hd hcl h0
        have g0 : (0 : Int) ≤ (k : Int) := by omega
        have g1 : (k : Int) < (a0.length : Int) := by have := fO.out; omega
        go_simp
        exact hK.out _ _ ⟨(by simp only [OG.upd, d0, d1]; rfl), (HJ.out)⟩
      · obtain ⟨rfl, hP0⟩ := hJ
        have d2 := hd.get 2 (by rfl)
        have HJ := Lib.hid (hP0)
        clear hP0 hd hcl h0
        rw [HJ.out]
        refine wp_load_mid 46 (.tmp 18) rfl b1 (o1 + k * 13) (by show cond (l 2) _ _ = _; rw [d2]; rfl) s.R.toList _ H1.out Try.underlying46 rfl i46.out ?_
        exact hK.out _ _ ⟨(by simp only [OG.upd, d2]; rfl), (rfl)⟩
      · obtain ⟨rfl, hP0⟩ := hJ
        have HJ := Lib.hid (hP0)
        clear hP0 hd hcl h0
        go_simp
        exact hK.out _ _ ⟨(rfl), (HJ.out)⟩
      · obtain ⟨rfl, hP0⟩ := hJ
        have HJ := Lib.hid (hP0)
        clear hP0 hd hcl h0
        go_simp
        exact hK.out _ _ ⟨(rfl), (HJ.out)⟩
      · obtain ⟨rfl, hP0⟩ := hJ
        have d4 := hd.get 4 (by rfl)
        have d5 := hd.get 5 (by rfl)
        have HJ := Lib.hid (hP0)
        clear hP0 hd hcl h0
        have g0 : (0 : Int) ≤ (k : Int) := by omega
        have g1 : (k : Int) < (b0.length : Int) := by have := SG.out; omega
        go_simp
        exact hK.out _ _ ⟨(by simp only [OG.upd, d4, d5]; rfl), (HJ.out)⟩
      · obtain ⟨rfl, hP0⟩ := hJ
        have d6 := hd.get 6 (by rfl)
        have HJ := Lib.hid (hP0)
        clear hP0 hd hcl h0
        rw [HJ.out]
        refine wp_load_mid 46 (.tmp 22) rfl b2 (o2 + k * 13) (by show cond (l 6) _ _ = _; rw [d6]; rfl) t.R.toList _ H2.out Try.underlying46 rfl i46.out ?_
        exact hK.out _ _ ⟨(by simp only [OG.upd, d6]; rfl), (rfl)⟩
      · obtain ⟨rfl, hP0⟩ := hJ
        have d3 := hd.get 3 (by rfl)
        have d7 := hd.get 7 (by rfl)
        have HJ := Lib.hid (hP0)
        clear hP0 hd hcl h0
        refine CU 46 46 (.tmp 19) (.tmp 23) rfl s.R t.R (by show cond (l 3) _ _ = _; rw [d3]; rfl) (by show cond (l 7) _ _ = _; rw [d7]; rfl) zl _ (VG s t w) ?_
        exact hK.out _ _ ⟨(by simp only [OG.upd, d3, d7]; rfl), (HJ.out)⟩
     case se =>
      intro l a w hJ he
      obtain ⟨rfl, hP0⟩ := hJ
      rw [he 0 (by decide), he 1 (by decide), he 2 (by decide), he 3 (by decide), he 4 (by decide), he 5 (by decide), he 6 (by decide), he 7 (by decide), he 8 (by decide)]
      subst hP0
      simp only [cond_true]
      clear he
      cases hE : MK s t
      · simp only [Bool.not_false]
        go_wp2
        go_ret
        refine ⟨false, rfl, ⟨fun h => (by cases h), fun e => ?_⟩, F.out.1.drew⟩
        have h1 := HST.out.1
        rw [e, HST.out.2] at h1
        injection h1 with h1
        rw [sS.2 h1.symm] at hE
        cases hE
      · simp only [Bool.not_true]
        have g0 : (0 : Int) ≤ (k : Int) := by omega
        have g1 : (k : Int) < 1000000 := by have := fO.out; have := la.out; omega
        have hw : IntKind.i64.wrap ((k : Int) + 1) = ((k + 1 : Nat) : Int) := by rw [IntWalk.i64_in _ (by omega)]; omega
        go_wp2
        go_roundw
        case rel =>
         refine ⟨k + 1, fO.out, by first | rfl | (simp [hw]) | (rw [hw]), Lib.hid ⟨F.out.1.drew, fun j hj => ?_⟩⟩
         obtain rfl | h : j = k ∨ j < k := by omega
         · rw [HST.out.1, HST.out.2, sS.1 hE]
         · exact F.out.2 j h
        case measure =>
         have := fO.out
         simp [intOf, hw]
         omega
end Go.Proofs.Ytnijhjbcjeohhaa.BB

namespace Go.Proofs.Ytnijhjbcjeohhaa.BB
open Go.RowKit Go.Proofs.Ytnijhjbcjeohhaa.KK Go.Proofs.Ytnijhjbcjeohhaa.EE Go.Proofs.af.aA Go.Proofs.af.aN Go.Proofs.af.aP
set_option linter.unusedVariables false
set_option linter.unusedSimpArgs false
theorem nR.take {w : World} {A : Option Addr} {l : List Sm} (h : nR w A l) (n : Nat) : nR w A (l.take n) :=
 ⟨Nat.le_trans (by rw [List.length_take]; exact Nat.min_le_right _ _) h.len, fun hp => by
   have h0 : 0 < l.length := by rw [List.length_take] at hp; omega
   obtain ⟨b, o, e, hb, hc⟩ := h.at_ h0
   refine ⟨b, o, e, hb, fun j s hj => hc j s ?_⟩
   rw [List.getElem?_take] at hj
   split at hj
   · exact hj
   · cases hj⟩
theorem jH (a0 b0 : List Sm) (A B : Option Addr) (ca cb : Nat) (w : World) (ha : nR w A a0) (hb : nR w B b0) (hc : b0.length ≤ cb) (hm : cb ≤ 4611686018427387904) :
 Calls Try.prog 24 #[.slice A a0.length ca, .slice B b0.length cb] w fun x w' => ∃ r : Bool, x = .returned (.bool r) ∧ (r = true ↔ a0 = b0.take a0.length) ∧ Below w.heap.size w w' := by
 have HA := Lib.hid ha
 have HB := Lib.hid hb
 have la := ha.len
 have lb := hb.len
 clear ha hb
 go_enter Try.func24, Try.ntmps24
 by_cases hl : a0.length ≤ b0.length
 case neg =>
  have hd : decide ((a0.length : Int) ≤ (b0.length : Int)) = false := decide_eq_false (by omega)
  go_wp2
  go_ret
  refine ⟨false, rfl, ⟨fun h => (by cases h), fun e => ?_⟩, Below.refl _ _⟩
  have := congrArg List.length e
  rw [List.length_take] at this
  omega
 case pos =>
  have hd : decide ((a0.length : Int) ≤ (b0.length : Int)) = true := decide_eq_true (by omega)
  have g0 : (0 : Int) ≤ (a0.length : Int) := by omega
  have g1 : (a0.length : Int) ≤ (cb : Int) := by omega
  have HL := Lib.hid hl
  go_wp2_with fail
  have H := Fv a0 (b0.take a0.length) A B ca cb w HA.out (HB.out.take _)
  rw [show (b0.take a0.length).length = a0.length by rw [List.length_take]; omega] at H
  refine H.mono ?_
  rintro x w' ⟨r, rfl, hr, hb⟩
  have RR := Lib.hid (And.intro hr hb)
  clear hr hb H
  cases r
  all_goals go_wp2
  all_goals go_ret
  · exact ⟨false, rfl, (by simpa using RR.out.1), RR.out.2⟩
  · exact ⟨true, rfl, (by simpa using RR.out.1), RR.out.2⟩
end Go.Proofs.Ytnijhjbcjeohhaa.BB

namespace Go.Proofs.Ytnijhjbcjeohhaa.BB
open Go.RowKit Go.Proofs.Ytnijhjbcjeohhaa.KK Go.Proofs.Ytnijhjbcjeohhaa.EE Go.Proofs.af.aA Go.Proofs.af.aN Go.Proofs.af.aP
set_option linter.unusedVariables false
set_option linter.unusedSimpArgs false
structure jX (sz : Nat) (w : World) (A : Option Addr) (l : List (Array Value)) : Prop where
 len : l.length ≤ 1000000
 at_ : 0 < l.length → ∃ b o, A = some ⟨b, o, none⟩ ∧ b < w.heap.size ∧ ∀ j s, l[j]? = some s → w.rangeAt b (o + j * sz) s.toList
theorem jX.below {sz : Nat} {w w' : World} {A : Option Addr} {l : List (Array Value)} (h : jX sz w A l) (hb : Below w.heap.size w w') : jX sz w' A l :=
 ⟨h.len, fun hp => by
   obtain ⟨b, o, e, hl, hc⟩ := h.at_ hp
   exact ⟨b, o, e, Nat.lt_of_lt_of_le hl hb.size, fun j s hj => uZ (hc j s hj) (hb.block b hl)⟩⟩
structure Tk where
 gen : Int
 k : Int
 y0 : Int
 y1 : Int
 y2 : Int
def Tk.R (t : Tk) : Array Value := #[I t.gen, I t.k, I t.y0, I t.y1, I t.y2]
def falls (p q : Tk) : Bool := decide (q.gen < p.gen) || (decide (q.gen = p.gen) && decide (q.k ≤ p.k))
theorem jl (l : List Tk) (A : Option Addr) (ca : Nat) (w : World) (hr : jX 5 w A (l.map Tk.R)) :
 Calls Try.prog 26 #[.slice A l.length ca] w fun x w' => ∃ r : Bool, x = .returned (.bool r) ∧ (r = true ↔ ∀ i p q, l[i]? = some p → l[i + 1]? = some q → falls p q = false) ∧ Below w.heap.size w w' := by
 have HR := Lib.hid hr
 have la : Hid (l.length ≤ 1000000) := Lib.hid (by simpa using hr.len)
 clear hr
 go_enter Try.func26, Try.ntmps26
 go_wp2
 go_loopw [6] (fun i wr => ∃ k : Nat, k ≤ l.length ∧ i = .int .i64 k ∧ Hid (Below w.heap.size w wr ∧ ∀ i p q, i + 1 < k → l[i]? = some p → l[i + 1]? = some q → falls p q = false)) (fun i _ => l.length - (intOf i).toNat)
 case atStart => exact ⟨0, by omega, rfl, Below.refl _ _, fun i p q h => by omega⟩
 case round =>
  obtain ⟨k, hk, rfl, F⟩ := hrel
  obtain rfl | hlt : k = l.length ∨ k < l.length := by omega
  · go_wp2
    go_ret
    refine ⟨true, rfl, ⟨fun _ i p q hp hq => F.out.2 i p q ?_ hp hq, fun _ => rfl⟩, F.out.1⟩
    have := (List.getElem?_eq_some_iff.1 hq).1
    omega
  · have fO := Lib.hid hlt
    have hd : decide (k < l.length) = true := decide_eq_true hlt
    have g1 : (k : Int) < 1000000 := by have := la.out; omega
    have hw : IntKind.i64.wrap ((k : Int) + 1) = ((k + 1 : Nat) : Int) := by rw [IntWalk.i64_in _ (by omega)]; omega
    cases k with
    | zero =>
      go_wp2
      go_quiet (fail)
      go_wp2
      exact ⟨⟨1, by have := fO.out; omega, rfl, Lib.hid ⟨ah F.out.1 _, fun i p q h => by omega⟩⟩, by have := fO.out; simp [intOf]; omega⟩
    | succ m =>
      obtain ⟨q, hq⟩ : ∃ q, l[m + 1]? = some q := ⟨_, List.getElem?_eq_getElem hlt⟩
      obtain ⟨p, hp⟩ : ∃ p, l[m]? = some p := ⟨_, List.getElem?_eq_getElem (by omega)⟩
      obtain ⟨b, o, rfl, hb, hat⟩ := (HR.out.below F.out.1).at_ (by simp; omega)
      have hP := hat m p.R (by simp [hp])
      have hQ := hat (m + 1) q.R (by simp [hq])
      have p0 : wr.cell? ⟨b, o + m * 5, none⟩ = some (I p.gen) := hP 0 _ rfl
      have p1 : wr.cell? ⟨b, o + m * 5 + 1, none⟩ = some (I p.k) := hP 1 _ rfl
      have q0 : wr.cell? ⟨b, o + (m + 1) * 5, none⟩ = some (I q.gen) := hQ 0 _ rfl
      have q1 : wr.cell? ⟨b, o + (m + 1) * 5 + 1, none⟩ = some (I q.k) := hQ 1 _ rfl
      have Gn := Lib.hid (And.intro hp hq)
      have hm : Hid (m < l.length) := Lib.hid (by omega)
      clear hP hQ hat hp hq hlt hk
      have g2 : (m : Int) < (l.length : Int) := by have := hm.out; omega
      have g3 : (m : Int) + 1 < (l.length : Int) := by have := fO.out; omega
      have g0 : (0 : Int) ≤ (m : Int) := by omega
      have g4 : (0 : Int) < (m : Int) + 1 := by omega
      have hs : IntKind.i64.wrap ((m : Int) + 1 - 1) = (m : Int) := by rw [IntWalk.i64_in _ (by omega)]; omega
      rcases Int.lt_trichotomy q.gen p.gen with h | h | h
      · have d1 : decide (q.gen < p.gen) = true := decide_eq_true h
        go_wp2
        go_quiet (fail)
        go_wp2
        go_ret
        exact ⟨false, rfl, ⟨fun h => (by cases h), fun hh => (by have := hh m p q Gn.out.1 Gn.out.2; simp [falls, h] at this)⟩, ah F.out.1 _⟩
      · have d1 : decide (q.gen < p.gen) = false := decide_eq_false (by omega)
        have d2 : (q.gen == p.gen) = true := by rw [beq_iff_eq]; exact h
        have HG := Lib.hid h
        clear h
        by_cases hk : q.k ≤ p.k
        · have d3 : decide (q.k ≤ p.k) = true := decide_eq_true hk
          go_wp2
          go_quiet (fail)
          go_wp2
          have h := HG.out
          go_ret
          exact ⟨false, rfl, ⟨fun h => (by cases h), fun hh => (by have := hh m p q Gn.out.1 Gn.out.2; simp [falls, h, hk] at this)⟩, ah F.out.1 _⟩
        · have d3 : decide (q.k ≤ p.k) = false := decide_eq_false hk
          go_wp2
          go_quiet (fail)
          go_wp2
          have h := HG.out
          go_roundw
          case rel => exact ⟨m + 1 + 1, fO.out, by first | rfl | (simp [hw]) | (rw [hw]), Lib.hid ⟨ah F.out.1 _, fun i p' q' hi hp' hq' => (by
           obtain rfl | hi2 : i = m ∨ i + 1 < m + 1 := by omega
           · rw [Gn.out.1] at hp'; rw [Gn.out.2] at hq'
             injection hp' with hp'; injection hq' with hq'; subst hp' hq'
             simp only [falls, Bool.or_eq_false_iff, Bool.and_eq_false_iff, decide_eq_false_iff_not]
             omega
           · exact F.out.2 i p' q' hi2 hp' hq')⟩⟩
          case measure =>
           have := fO.out
           simp [intOf, hw]
           omega
      · have d1 : decide (q.gen < p.gen) = false := decide_eq_false (by omega)
        have d2 : (q.gen == p.gen) = false := by rw [beq_eq_false_iff_ne]; omega
        go_wp2
        go_quiet (fail)
        go_wp2
        go_roundw
        case rel => exact ⟨m + 1 + 1, fO.out, by first | rfl | (simp [hw]) | (rw [hw]), Lib.hid ⟨ah F.out.1 _, fun i p' q' hi hp' hq' => (by
         obtain rfl | hi2 : i = m ∨ i + 1 < m + 1 := by omega
         · rw [Gn.out.1] at hp'; rw [Gn.out.2] at hq'
           injection hp' with hp'; injection hq' with hq'; subst hp' hq'
           simp only [falls, Bool.or_eq_false_iff, Bool.and_eq_false_iff, decide_eq_false_iff_not]
           omega
         · exact F.out.2 i p' q' hi2 hp' hq')⟩⟩
        case measure =>
         have := fO.out
         simp [intOf, hw]
         omega
end Go.Proofs.Ytnijhjbcjeohhaa.BB

namespace Go.Proofs.Ytnijhjbcjeohhaa.BB
open Go.RowKit Go.Proofs.Ytnijhjbcjeohhaa.KK Go.Proofs.Ytnijhjbcjeohhaa.EE Go.Proofs.af.aA Go.Proofs.af.aN Go.Proofs.af.aP
set_option linter.unusedVariables false
set_option linter.unusedSimpArgs false
structure Ou where
 k : Int
 y0 : Int
 y1 : Int
 y2 : Int
def Ou.R (o : Ou) : Array Value := #[I o.k, I o.y0, I o.y1, I o.y2]
def Tk.out (t : Tk) : Ou := ⟨t.k, t.y0, t.y1, t.y2⟩
def lY (g : Int) (l : List Tk) : List Ou := (l.filter fun t => t.gen == g).map Tk.out
def jJ (l : List Ou) : List Value := l.flatMap fun o => o.R.toList
theorem wR (l m : List Ou) : jJ (l ++ m) = jJ l ++ jJ m := by simp [jJ]
theorem vF (g : Int) (l : List Tk) (t : Tk) : lY g (l ++ [t]) = lY g l ++ (if t.gen = g then [t.out] else []) := by
 by_cases h : t.gen = g <;> simp [lY, List.filter_append, h]
theorem oV (g : Int) (l : List Tk) : (lY g l).length ≤ l.length := by
 simp [lY]
 exact List.length_filter_le _ _
theorem iL (l : List Tk) (g : Int) (A : Option Addr) (ca : Nat) (w : World) (hr : jX 5 w A (l.map Tk.R)) :
 Calls Try.prog 29 #[.slice A l.length ca, .int .i64 g] w fun x w' => ∃ v, x = .returned v ∧ w'.ownsRow w.heap.size 76 4 v (lY g l).length (jJ (lY g l)) ∧ Below w.heap.size w w' := by
 have HR := Lib.hid hr
 have la : Hid (l.length ≤ 1000000) := Lib.hid (by simpa using hr.len)
 clear hr
 go_enter Try.func29, Try.ntmps29
 go_wp2
 go_loopw [10, 5] (fun i v wr => ∃ k : Nat, k ≤ l.length ∧ i = .int .i64 k ∧ Hid (Below w.heap.size w wr ∧ wr.ownsRow w.heap.size 76 4 v (lY g (l.take k)).length (jJ (lY g (l.take k))))) (fun i _ _ => l.length - (intOf i).toNat)
 case atStart => exact ⟨0, by omega, rfl, Below.refl _ _, World.ownsRow_nil _ _ _ _⟩
 case round =>
  obtain ⟨k, hk, rfl, F⟩ := hrel
  obtain rfl | hlt : k = l.length ∨ k < l.length := by omega
  · go_wp2
    go_ret
    have h := F.out.2
    rw [List.take_length] at h
    exact ⟨_, rfl, h, F.out.1⟩
  · have fO := Lib.hid hlt
    obtain ⟨t, ht⟩ : ∃ t, l[k]? = some t := ⟨_, List.getElem?_eq_getElem hlt⟩
    have HT := Lib.hid ht
    obtain ⟨b, o, rfl, hb, hat⟩ := (HR.out.below F.out.1).at_ (by simp; omega)
    have RT := Lib.hid (hat k t.R (by simp [ht]))
    clear hat hb ht hlt hk
    have hd : decide (k < l.length) = true := decide_eq_true fO.out
    have g0 : (0 : Int) ≤ (k : Int) := by omega
    have g1 : (k : Int) < 1000000 := by have := la.out; have := fO.out; omega
    have g2 : (k : Int) < (l.length : Int) := by have := fO.out; omega
    have hw : IntKind.i64.wrap ((k : Int) + 1) = ((k + 1 : Nat) : Int) := by rw [IntWalk.i64_in _ (by omega)]; omega
    have i78 : Hid ((Try.prog.info? 78).map (·.size) = some t.R.toList.length) := Lib.hid (by kernel_rfl)
    have XZ : Hid ((Try.prog.info? 78).map (·.size) = some t.R.size) := Lib.hid (by kernel_rfl)
    have one : Hid (t.R.all (·.oneCell') = true) := Lib.hid (by kernel_rfl)
    have TN := Lib.hid (oU wr #[.int .i64 0, .int .i64 0, .int .i64 0, .int .i64 0, .int .i64 0] t.R 78 rfl)
    have TH : Hid ((wr.alloc (.cells #[.int .i64 0, .int .i64 0, .int .i64 0, .int .i64 0, .int .i64 0] 78)).there wr.heap.size 0 t.R.size) := Lib.hid (by have h := Row.there (Row.new wr 78 #[.int .i64 0, .int .i64 0, .int .i64 0, .int .i64 0, .int .i64 0]); exact h)
    go_upto_region 5 with (first | with_reducible refine OG.gV rfl 78 (.tmp 12) rfl b (o + k * 5) rfl t.R.toList _ RT.out Try.underlying78 rfl i78.out ?_ | with_reducible refine wpList_store_mid rfl 78 (.tmp 7) (.tmp 13) rfl wr.heap.size 0 t.R rfl rfl TH.out XZ.out one.out ?_)
    clear TH RT i78 XZ one
    generalize (wr.alloc (.cells #[.int .i64 0, .int .i64 0, .int .i64 0, .int .i64 0, .int .i64 0] 78)).setCells wr.heap.size 0 t.R.toList = w1 at TN ⊢
    have R7 := Lib.hid TN.out.1
    have B1 : Hid (Below w.heap.size w w1) := Lib.hid (F.out.1.trans (TN.out.2.mono F.out.1.size))
    have OV : Hid (w1.ownsRow w.heap.size 76 4 u5 (lY g (l.take k)).length (jJ (lY g (l.take k)))) := Lib.hid (gp F.out.2 (fun g' hg => TN.out.2.block g' (F.out.2.lt g' hg).2))
    have SZ : Hid (w.heap.size ≤ w1.heap.size) := Lib.hid B1.out.size
    clear TN F
    generalize wr.heap.size = z at R7 ⊢
    simp only [Act.put]
    have c7 : ∀ i, w1.cell? ⟨z, i, none⟩ = #[I t.gen, I t.k, I t.y0, I t.y1, I t.y2][i]? := R7.out.cell
    have TK : Hid (l.take (k + 1) = l.take k ++ [t]) := Lib.hid (by rw [List.take_add_one, HT.out]; rfl)
    by_cases hg : t.gen = g
    case neg =>
     have d1 : (t.gen == g) = false := by rw [beq_eq_false_iff_ne]; exact hg
     go_wp2
     go_roundw
     case rel =>
      refine ⟨k + 1, fO.out, by first | rfl | (simp [hw]) | (rw [hw]), Lib.hid ⟨B1.out, ?_⟩⟩
      rw [TK.out, vF, if_neg hg, List.append_nil]
      exact OV.out
     case measure =>
      have := fO.out
      simp [intOf, hw]
      omega
    case pos =>
     have d1 : (t.gen == g) = true := by rw [beq_iff_eq]; exact hg
     obtain ⟨i0, hi, hz0, hz1, hz2⟩ := info_parts (show (Try.prog.info? 76).map (fun i => (i.zero, i.size, i.bytes)) = some (some (.agg #[.int .i64 0, .int .i64 0, .int .i64 0, .int .i64 0]), 4, 32) by kernel_rfl)
     have HI := Lib.hid (And.intro hi (And.intro hz0 (And.intro hz1 hz2)))
     have LE : Hid ((lY g (l.take k)).length ≤ 1000000) := Lib.hid (by have h1 := oV g (l.take k); rw [List.length_take] at h1; have := la.out; omega)
     clear hi hz0 hz1 hz2
     have HC : Hid (∀ j u, t.out.R.toList[j]? = some u → (w1.alloc (.cells #[I t.k, I t.y0, I t.y1, I t.y2] 76)).cell? ((⟨w1.heap.size, 0, none⟩ : Addr).add j) = some u) := Lib.hid (fun j u hu => by
      have h := (Row.new w1 76 #[I t.k, I t.y0, I t.y1, I t.y2]).cell j
      have e : (⟨w1.heap.size, 0, none⟩ : Addr).add j = ⟨w1.heap.size, j, none⟩ := by
       simp [Addr.add]
       omega
      rw [e, h]
      simpa [Ou.R, Tk.out] using hu)
     have H1 : Hid (∀ u ∈ t.out.R.toList, u.oneCell' = true) := Lib.hid (by simp [Ou.R, Value.oneCell'])
     have H2 : Hid ((lY g (l.take k)).length + 1 ≤ maxLen) := Lib.hid (by simp only [maxLen]; have := LE.out; omega)
     have H3 : Hid (((lY g (l.take k)).length + 1) * 32 ≤ 140737488355328) := Lib.hid (by have := LE.out; omega)
     have H4 : Hid (w.heap.size ≤ (w1.alloc (.cells #[I t.k, I t.y0, I t.y1, I t.y2] 76)).heap.size) := Lib.hid (by have := SZ.out; simp; omega)
     go_wp2_with (with_reducible refine wpList_append_own _ rfl (.tmp 18) (.tmp 24) 64 rfl w.heap.size 76 i0 (.agg #[.int .i64 0, .int .i64 0, .int .i64 0, .int .i64 0]) 4 32 Try.underlying64 HI.out.1 HI.out.2.1 HI.out.2.2.1 HI.out.2.2.2 rfl (by decide) u5 _ _ rfl (OV.out.alloc _) ⟨w1.heap.size, 0, none⟩ 1 1 t.out.R.toList rfl rfl HC.out H1.out H2.out H3.out H4.out ?_)
     intro v' w2 hown hgrow _
     have OW : Hid (w2.ownsRow w.heap.size 76 4 v' (lY g (l.take (k + 1))).length (jJ (lY g (l.take (k + 1))))) := Lib.hid (by
      rw [TK.out, vF, if_pos hg, List.length_append, wR]
      simpa [jJ] using hown)
     have B2 : Hid (Below w.heap.size w w2) := Lib.hid ((B1.out.alloc SZ.out _).grown hgrow H4.out (fun j ej => (OV.out.lt j ej).1))
     clear hown hgrow HC H1 H2 H3 H4 OV c7 d1
     go_wp2
     go_roundw
     case rel => exact ⟨k + 1, fO.out, by first | rfl | (simp [hw]) | (rw [hw]), Lib.hid ⟨B2.out, OW.out⟩⟩
     case measure =>
      have := fO.out
      simp [intOf, hw]
      omega
end Go.Proofs.Ytnijhjbcjeohhaa.BB

namespace Go.Proofs.Ytnijhjbcjeohhaa.BB
open Go.RowKit Go.Proofs.Ytnijhjbcjeohhaa.KK Go.Proofs.Ytnijhjbcjeohhaa.EE Go.Proofs.af.aA Go.Proofs.af.aN Go.Proofs.af.aP
set_option linter.unusedVariables false
set_option linter.unusedSimpArgs false
structure Vc where
 y0 : Int
 y1 : Int
 y2 : Int
def Vc.R (v : Vc) : Array Value := #[I v.y0, I v.y1, I v.y2]
def bad (L : List Vc) (o : Ou) : Prop := ∀ v : Vc, 0 ≤ o.k - 1 → L[(o.k - 1).toNat]? = some v → ¬ (v.y0 = o.y0 ∧ v.y1 = o.y1 ∧ v.y2 = o.y2)
theorem L8 (o : Ou) (L : List Vc) (t : Nat) (A : Option Addr) (cp : Nat) (w : World) (hb : Boxed w t 69 (.slice A L.length cp)) (hr : jX 3 w A (L.map Vc.R)) :
 Calls Try.prog 54 #[.agg o.R, .pointer (some ⟨t, 0, none⟩)] w fun x w' => ∃ r : Bool, x = .returned (.bool r) ∧ (r = true ↔ bad L o) ∧ Below w.heap.size w w' := by
 have HB := Lib.hid hb
 have HR := Lib.hid hr
 have la : Hid (L.length ≤ 1000000) := Lib.hid (by simpa using hr.len)
 clear hb hr
 go_enter Try.func54, Try.ntmps54
 have NB := Lib.hid (Row.new w 76 o.R)
 have BB := Lib.hid ((Below.refl w.heap.size w).alloc (Nat.le_refl _) (.cells o.R 76))
 go_upto_region 1 with fail
 generalize w.alloc (.cells o.R 76) = w1 at NB BB ⊢
 have c2 : ∀ i, w1.cell? ⟨w.heap.size, i, none⟩ = #[I o.k, I o.y0, I o.y1, I o.y2][i]? := NB.out.cell
 have cT : w1.cell? ⟨t, 0, none⟩ = some (.slice A L.length cp) := (show Boxed w1 t 69 _ from (BB.out.block t HB.out.lt).trans HB.out).cell
 have R1 := Lib.hid (HR.out.below BB.out)
 clear NB HR HB
 by_cases h1 : o.k < 1
 case pos =>
  have d1 : decide (o.k < 1) = true := decide_eq_true h1
  go_quiet (fail)
  go_wp2
  go_ret
  exact ⟨true, rfl, ⟨fun _ v h => by omega, fun _ => rfl⟩, ah BB.out _⟩
 have d1 : decide (o.k < 1) = false := decide_eq_false h1
 by_cases h2 : (L.length : Int) < o.k
 case pos =>
  have d2 : decide ((L.length : Int) < o.k) = true := decide_eq_true h2
  go_quiet (fail)
  go_wp2
  refine bodyPost_ret (results_tmp rfl _ _ _) rfl (Or.inr ⟨rfl, fun v h hv => ?_, ah BB.out _⟩)
  have := (List.getElem?_eq_some_iff.1 hv).1
  omega
 have d2 : decide ((L.length : Int) < o.k) = false := decide_eq_false h2
 obtain ⟨j, hj⟩ : ∃ j : Nat, o.k = (j : Int) + 1 := ⟨(o.k - 1).toNat, by omega⟩
 have hjl : j < L.length := by omega
 obtain ⟨v, hv⟩ : ∃ v, L[j]? = some v := ⟨_, List.getElem?_eq_getElem hjl⟩
 obtain ⟨b, off, rfl, hb, hat⟩ := R1.out.at_ (by simp; omega)
 have hV := hat j v.R (by simp [hv])
 have e0 : w1.cell? ⟨b, off + j * 3, none⟩ = some (I v.y0) := hV 0 _ rfl
 have e1 : w1.cell? ⟨b, off + j * 3 + 1, none⟩ = some (I v.y1) := hV 1 _ rfl
 have e2 : w1.cell? ⟨b, off + j * 3 + 2, none⟩ = some (I v.y2) := hV 2 _ rfl
 have HV := Lib.hid hv
 have HJ := Lib.hid hj
 have hw : IntKind.i64.wrap (o.k - 1) = (j : Int) := by rw [IntWalk.i64_in _ (by have := la.out; omega)]; omega
 have g0 : (0 : Int) ≤ (j : Int) := by omega
 have g1 : (j : Int) < (L.length : Int) := by omega
 have EQ : ∀ w', (Op.equalIn 10000 42 (.agg #[.int .i64 v.y0, .int .i64 v.y1, .int .i64 v.y2]) (.agg #[.int .i64 o.y0, .int .i64 o.y1, .int .i64 o.y2])).run Try.prog w' = .ok (v3 v.y0 v.y1 v.y2 o.y0 o.y1 o.y2) w' := fun w' => Ig 9998 _ _ _ _ _ _ w'
 clear hv hj hat hV h1 h2 hjl
 go_quiet (fail)
 go_wp2
 refine bodyPost_ret (results_tmp rfl _ _ _) rfl ⟨_, rfl, ?_, ah BB.out _⟩
 have hj2 : (o.k - 1).toNat = j := by have := HJ.out; omega
 rw [Bool.not_eq_true', ← Bool.not_eq_true, yF]
 constructor
 · intro h v' _ hv' h'
   rw [hj2, HV.out] at hv'
   injection hv' with hv'
   subst hv'
   exact h h'
 · intro h h'
   exact h v (by have := HJ.out; omega) (by rw [hj2]; exact HV.out) h'
end Go.Proofs.Ytnijhjbcjeohhaa.BB

namespace Go.Proofs.Ytnijhjbcjeohhaa.BB
open Go.RowKit Go.Proofs.Ytnijhjbcjeohhaa.KK Go.Proofs.Ytnijhjbcjeohhaa.EE Go.Proofs.af.aA Go.Proofs.af.aN Go.Proofs.af.aP
set_option linter.unusedVariables false
set_option linter.unusedSimpArgs false
theorem rQ (os : List Ou) (L : List Vc) (t : Nat) (A B : Option Addr) (cp cb : Nat) (w : World) (hb : Boxed w t 69 (.slice A L.length cp)) (hr : jX 3 w A (L.map Vc.R)) (ho : jX 4 w B (os.map Ou.R)) :
 Calls Try.prog 80 #[.slice B os.length cb, .func (.func 54) #[] #[.pointer (some ⟨t, 0, none⟩)]] w fun x w' => ∃ r : Int, x = .returned (.int .i64 r) ∧ (0 ≤ r ↔ ∃ o ∈ os, bad L o) ∧ Below w.heap.size w w' := by
 have HB := Lib.hid hb
 have HR := Lib.hid hr
 have HO := Lib.hid ho
 have la : Hid (os.length ≤ 1000000) := Lib.hid (by simpa using ho.len)
 clear hb hr ho
 go_enter Try.func80, Try.ntmps80
 go_wp2
 go_loopw [8] (fun i wr => ∃ k : Nat, k ≤ os.length ∧ i = .int .i64 k ∧ Hid (Below w.heap.size w wr ∧ ∀ j o, j < k → os[j]? = some o → ¬ bad L o)) (fun i _ => os.length - (intOf i).toNat)
 case atStart => exact ⟨0, by omega, rfl, Below.refl _ _, fun j o h => by omega⟩
 case round =>
  obtain ⟨k, hk, rfl, F⟩ := hrel
  obtain rfl | hlt : k = os.length ∨ k < os.length := by omega
  · go_wp2
    refine bodyPost_ret (results_tmp rfl _ _ _) rfl ⟨_, rfl, ⟨fun h => absurd h (by decide), fun ⟨o, hm, hbad⟩ => ?_⟩, F.out.1⟩
    obtain ⟨j, hj, rfl⟩ := List.getElem_of_mem hm
    exact absurd hbad (F.out.2 j _ hj (by simp [hj]))
  · have fO := Lib.hid hlt
    obtain ⟨o, ho⟩ : ∃ o, os[k]? = some o := ⟨_, List.getElem?_eq_getElem hlt⟩
    have HK := Lib.hid ho
    obtain ⟨b, off, rfl, hb, hat⟩ := (HO.out.below F.out.1).at_ (by simp; omega)
    have RT := Lib.hid (hat k o.R (by simp [ho]))
    clear hat hb ho hlt hk
    have hd : decide (k < os.length) = true := decide_eq_true fO.out
    have g0 : (0 : Int) ≤ (k : Int) := by omega
    have g1 : (k : Int) < 1000000 := by have := la.out; have := fO.out; omega
    have g2 : (k : Int) < (os.length : Int) := by have := fO.out; omega
    have hw : IntKind.i64.wrap ((k : Int) + 1) = ((k + 1 : Nat) : Int) := by rw [IntWalk.i64_in _ (by omega)]; omega
    have i76 : Hid ((Try.prog.info? 76).map (·.size) = some o.R.toList.length) := Lib.hid (by kernel_rfl)
    go_wp2_with (with_reducible refine OG.gV rfl 76 (.tmp 14) rfl b (off + k * 4) rfl o.R.toList _ RT.out Try.underlying76 rfl i76.out ?_)
    refine (L8 o L t A cp wr ((F.out.1.block t HB.out.lt).trans HB.out) (HR.out.below F.out.1)).mono ?_
    rintro x w2 ⟨r, rfl, hrb, hbl⟩
    have RB := Lib.hid hrb
    have B2 : Hid (Below w.heap.size w w2) := Lib.hid (F.out.1.trans (hbl.mono F.out.1.size))
    clear hrb hbl RT i76
    cases r
    · go_wp2
      go_roundw
      case rel =>
       refine ⟨k + 1, fO.out, by first | rfl | (simp [hw]) | (rw [hw]), Lib.hid ⟨B2.out, fun j o' hj ho' => ?_⟩⟩
       obtain rfl | h : j = k ∨ j < k := by omega
       · rw [HK.out] at ho'
         injection ho' with ho'
         subst ho'
         intro hbad
         have := RB.out.2 hbad
         cases this
       · exact F.out.2 j o' h ho'
      case measure =>
       have := fO.out
       simp [intOf, hw]
       omega
    · go_wp2
      refine bodyPost_ret (results_tmp rfl _ _ _) rfl ⟨_, rfl, ⟨fun _ => ⟨o, List.mem_of_getElem? HK.out, RB.out.1 (by simp)⟩, fun _ => by omega⟩, B2.out⟩
theorem oD (os : List Ou) (L : List Vc) (t : Nat) (A B : Option Addr) (cp cb : Nat) (w : World) (hb : Boxed w t 69 (.slice A L.length cp)) (hr : jX 3 w A (L.map Vc.R)) (ho : jX 4 w B (os.map Ou.R)) :
 Calls Try.prog 53 #[.slice B os.length cb, .func (.func 54) #[] #[.pointer (some ⟨t, 0, none⟩)]] w fun x w' => ∃ r : Bool, x = .returned (.bool r) ∧ (r = true ↔ ∃ o ∈ os, bad L o) ∧ Below w.heap.size w w' := by
 have HI := Lib.hid (rQ os L t A B cp cb w hb hr ho)
 clear hb hr ho
 go_enter Try.func53, Try.ntmps53
 go_wp2_with fail
 refine HI.out.mono ?_
 rintro x w2 ⟨r, rfl, hrb, hbl⟩
 have RB := Lib.hid (And.intro hrb hbl)
 clear hrb hbl
 by_cases h : 0 ≤ r
 · have hd : decide (0 ≤ r) = true := decide_eq_true h
   have HX := Lib.hid (RB.out.1.1 h)
   clear h
   go_wp2
   refine bodyPost_ret (results_tmp rfl _ _ _) rfl ?_
   exact ⟨true, rfl, ⟨fun _ => HX.out, fun _ => rfl⟩, RB.out.2⟩
 · have hd : decide (0 ≤ r) = false := decide_eq_false h
   have HX := Lib.hid (fun hh => h (RB.out.1.2 hh))
   clear h
   go_wp2
   refine bodyPost_ret (results_tmp rfl _ _ _) rfl ?_
   exact ⟨false, rfl, ⟨fun h' => (by cases h'), fun hh => (HX.out hh).elim⟩, RB.out.2⟩
end Go.Proofs.Ytnijhjbcjeohhaa.BB

namespace Go.Proofs.Ytnijhjbcjeohhaa.BB
open Go.RowKit Go.Proofs.Ytnijhjbcjeohhaa.KK Go.Proofs.Ytnijhjbcjeohhaa.EE Go.Proofs.af.aA Go.Proofs.af.aN Go.Proofs.af.aP
set_option linter.unusedVariables false
set_option linter.unusedSimpArgs false
theorem DI (sz : Nat) : ∀ (L : List (Array Value)) (hs : ∀ a ∈ L, a.size = sz) (j i : Nat) (a : Array Value), L[j]? = some a → i < sz → (L.flatMap Array.toList)[j * sz + i]? = a.toList[i]?
 | [], _, j, i, a, h, _ => by simp at h
 | x :: L, hs, 0, i, a, h, hi => by
   simp at h
   subst h
   have hx := hs x (by simp)
   rw [List.flatMap_cons, List.getElem?_append_left (by simp; omega)]
   simp
 | x :: L, hs, j + 1, i, a, h, hi => by
   have hx := hs x (by simp)
   rw [List.flatMap_cons, List.getElem?_append_right (by simp [hx, Nat.add_mul]; omega)]
   rw [show (j + 1) * sz + i - x.toList.length = j * sz + i by simp [hx, Nat.add_mul]; omega]
   exact DI sz L (fun y hy => hs y (by simp [hy])) j i a (by simpa using h) hi
theorem uC {W : World} {D : Nat} {e : TypeId} {sz : Nat} {v : Value} {n : Nat} (L : List (Array Value)) (h : W.ownsRow D e sz v n (L.flatMap Array.toList)) (hs : ∀ a ∈ L, a.size = sz) (hL : L.length = n) (hn : n ≤ 1000000) :
 ∃ A cap, v = .slice A L.length cap ∧ n ≤ cap ∧ cap ≤ maxLen ∧ jX sz W A L := by
 have h0 := h
 rcases h.2 with ⟨rfl, h1⟩ | ⟨g, cap, cur, rfl, _, hg, hc, hm, _, _⟩
 · refine ⟨none, 0, by rw [hL, h1], by omega, by simp [maxLen], by omega, fun hp => by omega⟩
 · refine ⟨some ⟨g, 0, none⟩, cap, by rw [hL], hc, hm, by omega, fun hp => ⟨g, 0, rfl, (Array.getElem?_eq_some_iff.1 hg).1, fun j s hj i u hu => ?_⟩⟩
   have hi : i < sz := by
    have := (List.getElem?_eq_some_iff.1 hu).1
    have h2 := hs s (List.mem_of_getElem? hj)
    simp at this
    omega
   have h3 := h0.cells (g := g) rfl (j * sz + i) u (by rw [DI sz L hs j i s hj hi]; exact hu)
   have e' : (⟨g, 0, none⟩ : Addr).add (j * sz + i) = ⟨g, 0 + j * sz + i, none⟩ := by
    simp [Addr.add]
    omega
   rw [e'] at h3
   exact h3
def kP (N : Nat → En) (k : Nat) : List Vc := (List.range k).map fun j => ⟨(N (j + 1)).x0.getD 0 0, (N (j + 1)).x1.getD 0 0, (N (j + 1)).x2.getD 0 0⟩
theorem mD (N : Nat → En) (k : Nat) : (kP N k).length = k := by simp [kP]
theorem outs_eq (N : Nat → En) (k : Nat) : outs N k = ((kP N k).map Vc.R).flatMap Array.toList := by
 simp [outs, kP, List.flatMap_map, Vc.R, yv]
theorem vk {W : World} {D : Nat} {v : Value} {N : Nat → En} {k : Nat} (h : W.ownsRow D 42 3 v k (outs N k)) (hk : k ≤ 1000000) : ∃ A cap, v = .slice A (kP N k).length cap ∧ k ≤ cap ∧ cap ≤ maxLen ∧ jX 3 W A ((kP N k).map Vc.R) := by
 rw [outs_eq] at h
 have := uC ((kP N k).map Vc.R) h (fun a ha => by obtain ⟨x, _, rfl⟩ := List.mem_map.1 ha; rfl) (by simp [mD]) hk
 simpa using this
theorem pz (c : Cf) (log : List Sm) (os : List Ou) (A B : Option Addr) (cp cb : Nat) (N : Nat → En) (w : World) (hm : c.may = true) (hG : ∀ k, k ≤ log.length → Gd (N k)) (hS : ∀ k s, log[k]? = some s → kX c (N k) s (N (k + 1))) (h0 : N 0 = en0) (hl : nR w A log) (ho : jX 4 w B (os.map Ou.R)) :
 Calls Try.prog 33 #[.agg c.row, .slice A log.length cp, .slice B os.length cb] w fun x w' => ∃ r : Bool, x = .returned (.bool r) ∧ (r = true ↔ ∀ o ∈ os, ¬ bad (kP N log.length) o) ∧ Below w.heap.size w w' := by
 have HL := Lib.hid hl
 have HO := Lib.hid ho
 have FC : Hid (∀ w1, nR w1 A log → Calls Try.prog 31 #[.agg c.row, .slice A log.length cp] w1 fun x w' => ∃ (e : Es) (v : Value), e.nu = N log.length ∧ x = .returned (.tuple #[.agg e.R, v]) ∧ w'.ownsRow w1.heap.size 42 3 v log.length (outs N log.length) ∧ Below w1.heap.size w1 w') := Lib.hid (fun w1 h1 => oz c log A cp N w1 hm hG hS h0 h1)
 clear hm hG hS h0 hl ho
 go_enter Try.func33, Try.ntmps33
 have NB := Lib.hid (Row.new w 24 c.row)
 have BB := Lib.hid ((Below.refl w.heap.size w).alloc (Nat.le_refl _) (.cells c.row 24))
 go_upto_region 1 with fail
 generalize w.alloc (.cells c.row 24) = w1 at NB BB ⊢
 have hc : ∀ i, w1.cell? ⟨w.heap.size, i, none⟩ = c.row[i]? := NB.out.cell
 go_wp2_with fail
 refine (FC.out w1 (HL.out.below BB.out)).mono ?_
 rintro x w2 ⟨e, v, _, rfl, hv, hb⟩
 obtain ⟨G, cap, rfl, _, hcm, hrd⟩ := vk hv HL.out.len
 have RD := Lib.hid hrd
 have B2 : Hid (Below w.heap.size w w2) := Lib.hid (BB.out.trans (hb.mono BB.out.size))
 clear hv hb hrd hc NB FC
 generalize hLL : (kP N log.length).length = m at RD
 have HLL := Lib.hid hLL
 clear hLL
 have TH : Hid (((w2.alloc (.cells #[.int .i64 0, .int .i64 0, .int .i64 0, .int .i64 0, .int .i64 0, .int .i64 0, .slice none 0 0, .int .i64 0, .int .i64 0, .slice none 0 0, .int .i64 0, .int .i64 0, .slice none 0 0, .int .i64 0, .int .i64 0, .slice none 0 0, .int .i64 0, .int .i64 0, .slice none 0 0, .int .i64 0, .int .i64 0, .slice none 0 0, .int .i64 0, .int .i64 0, .int .i64 0, .int .i64 0, .int .i64 0, .int .i64 0, .bool false] 37)).alloc (.cells #[.slice none 0 0] 69)).there w2.heap.size 0 e.R.size) := Lib.hid (by have h := Row.there ((Row.new w2 37 #[.int .i64 0, .int .i64 0, .int .i64 0, .int .i64 0, .int .i64 0, .int .i64 0, .slice none 0 0, .int .i64 0, .int .i64 0, .slice none 0 0, .int .i64 0, .int .i64 0, .slice none 0 0, .int .i64 0, .int .i64 0, .slice none 0 0, .int .i64 0, .int .i64 0, .slice none 0 0, .int .i64 0, .int .i64 0, .slice none 0 0, .int .i64 0, .int .i64 0, .int .i64 0, .int .i64 0, .int .i64 0, .int .i64 0, .bool false]).alloc (.cells #[.slice none 0 0] 69)); exact h)
 have TN : Hid (Boxed (((w2.alloc (.cells #[.int .i64 0, .int .i64 0, .int .i64 0, .int .i64 0, .int .i64 0, .int .i64 0, .slice none 0 0, .int .i64 0, .int .i64 0, .slice none 0 0, .int .i64 0, .int .i64 0, .slice none 0 0, .int .i64 0, .int .i64 0, .slice none 0 0, .int .i64 0, .int .i64 0, .slice none 0 0, .int .i64 0, .int .i64 0, .slice none 0 0, .int .i64 0, .int .i64 0, .int .i64 0, .int .i64 0, .int .i64 0, .int .i64 0, .bool false] 37)).alloc (.cells #[.slice none 0 0] 69)).setCells w2.heap.size 0 e.R.toList) (w2.heap.size + 1) 69 (.slice none 0 0) ∧ Below w2.heap.size w2 (((w2.alloc (.cells #[.int .i64 0, .int .i64 0, .int .i64 0, .int .i64 0, .int .i64 0, .int .i64 0, .slice none 0 0, .int .i64 0, .int .i64 0, .slice none 0 0, .int .i64 0, .int .i64 0, .slice none 0 0, .int .i64 0, .int .i64 0, .slice none 0 0, .int .i64 0, .int .i64 0, .slice none 0 0, .int .i64 0, .int .i64 0, .slice none 0 0, .int .i64 0, .int .i64 0, .int .i64 0, .int .i64 0, .int .i64 0, .int .i64 0, .bool false] 37)).alloc (.cells #[.slice none 0 0] 69)).setCells w2.heap.size 0 e.R.toList)) := Lib.hid (by
  have r2 := Row.new (w2.alloc (.cells #[.int .i64 0, .int .i64 0, .int .i64 0, .int .i64 0, .int .i64 0, .int .i64 0, .slice none 0 0, .int .i64 0, .int .i64 0, .slice none 0 0, .int .i64 0, .int .i64 0, .slice none 0 0, .int .i64 0, .int .i64 0, .slice none 0 0, .int .i64 0, .int .i64 0, .slice none 0 0, .int .i64 0, .int .i64 0, .slice none 0 0, .int .i64 0, .int .i64 0, .int .i64 0, .int .i64 0, .int .i64 0, .int .i64 0, .bool false] 37)) 69 #[.slice none 0 0]
  rw [World.size_alloc] at r2
  exact ⟨(OG.dA _ _ _ _ (by omega)).trans r2, KK.dF _ _ _ (((Below.refl _ _).alloc (Nat.le_refl _) _).alloc (by simp) _) (Nat.le_refl _)⟩)
 have i37 : Hid ((Try.prog.info? 37).map (·.size) = some e.R.size) := Lib.hid (by kernel_rfl)
 have one : Hid (e.R.all (·.oneCell') = true) := Lib.hid (by kernel_rfl)
 dsimp only
 iterate 16 go_step
 with_reducible refine wpList_store_mid rfl 37 (.tmp 7) (.tmp 13) rfl w2.heap.size 0 e.R rfl rfl TH.out i37.out one.out ?_
 clear TH i37 one
 generalize (((w2.alloc (.cells #[.int .i64 0, .int .i64 0, .int .i64 0, .int .i64 0, .int .i64 0, .int .i64 0, .slice none 0 0, .int .i64 0, .int .i64 0, .slice none 0 0, .int .i64 0, .int .i64 0, .slice none 0 0, .int .i64 0, .int .i64 0, .slice none 0 0, .int .i64 0, .int .i64 0, .slice none 0 0, .int .i64 0, .int .i64 0, .slice none 0 0, .int .i64 0, .int .i64 0, .int .i64 0, .int .i64 0, .int .i64 0, .int .i64 0, .bool false] 37)).alloc (.cells #[.slice none 0 0] 69)).setCells w2.heap.size 0 e.R.toList) = w3 at TN ⊢
 simp only [Act.put]
 have c8 := TN.out.1.cell
 have f8 := TN.out.1.frozen
 iterate 3 go_step
 have B4 : Hid (Below w2.heap.size w2 (w3.setCell ⟨w2.heap.size + 1, 0, none⟩ (.slice G m cap))) := Lib.hid (TN.out.2.setCell (p := ⟨w2.heap.size + 1, 0, none⟩) (Nat.le_succ _) _)
 have R8 : Hid (Boxed (w3.setCell ⟨w2.heap.size + 1, 0, none⟩ (.slice G m cap)) (w2.heap.size + 1) 69 (.slice G m cap)) := Lib.hid (TN.out.1.set _)
 clear c8 f8 TN
 generalize w3.setCell ⟨w2.heap.size + 1, 0, none⟩ (.slice G m cap) = w4 at B4 R8 ⊢
 have RD4 := Lib.hid (RD.out.below B4.out)
 have B5 : Hid (Below w.heap.size w w4) := Lib.hid (B2.out.trans (B4.out.mono B2.out.size))
 have CC : Hid (Calls Try.prog 53 #[.slice B os.length cb, .func (.func 54) #[] #[.pointer (some ⟨w2.heap.size + 1, 0, none⟩)]] w4 fun x w' => ∃ r : Bool, x = .returned (.bool r) ∧ (r = true ↔ ∃ o ∈ os, bad (kP N log.length) o) ∧ Below w4.heap.size w4 w') := Lib.hid (oD os (kP N log.length) (w2.heap.size + 1) G B cap cb w4 (by rw [HLL.out]; exact R8.out) RD4.out (HO.out.below B5.out))
 clear RD R8 RD4 B4 B2
 go_wp2_with fail
 refine CC.out.mono ?_
 rintro x w5 ⟨r, rfl, hr, hb⟩
 have RR := Lib.hid hr
 have B6 : Hid (Below w.heap.size w w5) := Lib.hid (B5.out.trans (hb.mono B5.out.size))
 clear hr hb CC
 cases r
 · go_wp2
   refine bodyPost_ret (results_tmp rfl _ _ _) rfl ⟨true, rfl, ⟨fun _ o ho hbad => ?_, fun _ => rfl⟩, B6.out⟩
   have := RR.out.2 ⟨o, ho, hbad⟩
   cases this
 · go_wp2
   refine bodyPost_ret (results_tmp rfl _ _ _) rfl ⟨false, rfl, ⟨fun h => (by cases h), fun hh => ?_⟩, B6.out⟩
   obtain ⟨o, ho, hbad⟩ := RR.out.1 (by simp)
   exact absurd hbad (hh o ho)
end Go.Proofs.Ytnijhjbcjeohhaa.BB

namespace Go.Proofs.Ytnijhjbcjeohhaa.BB
open Go.RowKit Go.Proofs.Ytnijhjbcjeohhaa.KK Go.Proofs.Ytnijhjbcjeohhaa.EE Go.Proofs.af.aA Go.Proofs.af.aN Go.Proofs.af.aP
set_option linter.unusedVariables false
set_option linter.unusedSimpArgs false
def nS (k : Nat) : En := if k = 0 then en0 else OL.cnt true
theorem Tq : ∀ k, k ≤ [Gv].length → Gd (nS k) := fun k _ => by
 unfold nS
 split
 · exact wU
 · exact VI
theorem Jd : ∀ k s, [Gv][k]? = some s → kX PU (nS k) s (nS (k + 1)) := fun k s h => by
 cases k with
 | zero =>
   simp at h
   subst h
   exact GY
 | succ k => simp at h
theorem jX.one {sz : Nat} {w : World} {b : Nat} {t : TypeId} {a : Array Value} (h : Row w b t a) : jX sz w (some ⟨b, 0, none⟩) [a] := ⟨by simp, fun _ => ⟨b, 0, rfl, h.lt, fun j s hj => by
 cases j with
 | zero =>
   simp at hj
   subst hj
   simpa using Row.whole h
 | succ j => simp at hj⟩⟩
theorem Eo (w' : World) (n b : Nat) (h1 : nR w' (some ⟨n, 0, none⟩) [Gv]) (h2 : Row w' b 76 #[I 1, I 0, I 0, I 0]) : Calls Try.prog 33 #[.agg PU.row, .slice (some ⟨n, 0, none⟩) 1 1, .slice (some ⟨b, 0, none⟩) 1 1] w' fun x w2 => x = .returned (.bool true) ∧ Below w'.heap.size w' w2 :=
 (pz PU [Gv] [⟨1, 0, 0, 0⟩] _ (some ⟨b, 0, none⟩) 1 1 nS w' (by decide +kernel) Tq Jd rfl h1 (jX.one h2)).mono (by
   rintro x w2 ⟨r, rfl, hr, hb⟩
   refine ⟨?_, hb⟩
   rw [hr.2 (fun o ho hbad => ?_)]
   simp at ho
   subst ho
   have hL : (kP nS [Gv].length)[((1 : Int) - 1).toNat]? = some ⟨0, 0, 0⟩ := by
    show some (⟨OL.x0.getD 0 0, OL.x1.getD 0 0, OL.x2.getD 0 0⟩ : Vc) = _
    rw [OJ.1, OJ.2.1, OJ.2.2.1]
    rfl
   exact hbad ⟨0, 0, 0⟩ (by decide) hL ⟨rfl, rfl, rfl⟩)
theorem Df (w' : World) (n : Nat) (h1 : nR w' (some ⟨n, 0, none⟩) [Gv]) : Calls Try.prog 24 #[.slice none 0 0, .slice (some ⟨n, 0, none⟩) 1 1] w' fun x w2 => x = .returned (.bool true) ∧ Below w'.heap.size w' w2 :=
 (jH [] [Gv] none _ 0 1 w' ⟨by simp, fun h => by simp at h⟩ h1 (by simp) (by decide)).mono (by
   rintro x w2 ⟨r, rfl, hr, hb⟩
   exact ⟨by rw [hr.2 rfl], hb⟩)
theorem Em (w' : World) : Calls Try.prog 26 #[.slice none 0 0] w' fun x w2 => x = .returned (.bool true) ∧ Below w'.heap.size w' w2 :=
 (jl [] none 0 w' ⟨by simp, fun h => by simp at h⟩).mono (by
   rintro x w2 ⟨r, rfl, hr, hb⟩
   exact ⟨by rw [hr.2 (fun i p q h => by simp at h)], hb⟩)
theorem Na (w' : World) (b : Nat) (h2 : Row w' b 78 #[I 2, I 1, I 0, I 0, I 0]) : Calls Try.prog 29 #[.slice (some ⟨b, 0, none⟩) 1 1, .int .i64 2] w' fun x w2 => (∃ g cap, x = .returned (.slice (some ⟨g, 0, none⟩) 1 cap)) ∧ Below w'.heap.size w' w2 :=
 (iL [⟨2, 1, 0, 0, 0⟩] 2 (some ⟨b, 0, none⟩) 1 w' (jX.one h2)).mono (by
   rintro x w2 ⟨v, rfl, hv, hb⟩
   obtain ⟨g, cap, rfl⟩ := ownsRow_succ (k := 0) hv
   exact ⟨⟨g, cap, rfl⟩, hb⟩)
theorem iR (w : World) : Calls Try.prog 23 #[] w fun x w' => x = .returned (.bool true) ∧ Below w.heap.size w w' := by
 go_enter Try.func23, Try.ntmps23
 go_upto_region 2 with fail
 have NB : Hid (Row (w.alloc (.cells #[.bool true, .int .i64 0, .int .i64 0, .int .i64 0, .int .i64 0, .int .i64 0, .int .i64 0, .bool false, .int .i64 0, .bool false, .int .i64 0, .int .i64 0, .int .i64 0] 46)) w.heap.size 46 Gv.R) := Lib.hid (Row.new w 46 Gv.R)
 have B1 : Hid (Below w.heap.size w (w.alloc (.cells #[.bool true, .int .i64 0, .int .i64 0, .int .i64 0, .int .i64 0, .int .i64 0, .int .i64 0, .bool false, .int .i64 0, .bool false, .int .i64 0, .int .i64 0, .int .i64 0] 46))) := Lib.hid ((Below.refl _ _).alloc (Nat.le_refl _) _)
 generalize w.alloc (.cells #[.bool true, .int .i64 0, .int .i64 0, .int .i64 0, .int .i64 0, .int .i64 0, .int .i64 0, .bool false, .int .i64 0, .bool false, .int .i64 0, .int .i64 0, .int .i64 0] 46) = w1 at NB B1 ⊢
 have HL : Hid (nR w1 (some ⟨w.heap.size, 0, none⟩) [Gv]) := Lib.hid ⟨by decide, fun _ => ⟨w.heap.size, 0, rfl, NB.out.lt, fun j s hj => by
  cases j with
  | zero =>
    simp at hj
    subst hj
    exact Row.whole NB.out
  | succ j => simp at hj⟩⟩
 have FC : Hid (∀ w', nR w' (some ⟨w.heap.size, 0, none⟩) [Gv] → Calls Try.prog 31 #[.agg PU.row, .slice (some ⟨w.heap.size, 0, none⟩) 1 1] w' fun x w2 => ∃ (e : Es) (v : Value), e.nu = nS 1 ∧ x = .returned (.tuple #[.agg e.R, v]) ∧ w2.ownsRow w'.heap.size 42 3 v 1 (outs nS 1) ∧ Below w'.heap.size w' w2) := Lib.hid (fun w' h => oz PU [Gv] _ 1 nS w' (by decide +kernel) Tq Jd rfl h)
 go_wp2_with fail
 refine (zx _).mono ?_
 rintro x w2 ⟨rfl, hb⟩
 have L2 := Lib.hid (HL.out.below hb)
 have B2 : Hid (Below w.heap.size w w2) := Lib.hid (B1.out.trans (hb.mono B1.out.size))
 clear hb B1 HL NB
 go_wp2_with fail
 refine (FC.out w2 L2.out).mono ?_
 rintro x w3 ⟨e, v, he, rfl, hv, hb⟩
 obtain ⟨G, cap, rfl, -, -, -⟩ := vk hv (by decide)
 rw [mD]
 have HE := Lib.hid he
 have L3 := Lib.hid (L2.out.below hb)
 have B3 : Hid (Below w.heap.size w w3) := Lib.hid (B2.out.trans (hb.mono B2.out.size))
 clear hb hv he FC L2 B2
 have TN := Lib.hid (oU w3 #[.int .i64 0, .int .i64 0, .int .i64 0, .int .i64 0, .int .i64 0, .int .i64 0, .slice none 0 0, .int .i64 0, .int .i64 0, .slice none 0 0, .int .i64 0, .int .i64 0, .slice none 0 0, .int .i64 0, .int .i64 0, .slice none 0 0, .int .i64 0, .int .i64 0, .slice none 0 0, .int .i64 0, .int .i64 0, .slice none 0 0, .int .i64 0, .int .i64 0, .int .i64 0, .int .i64 0, .int .i64 0, .int .i64 0, .bool false] e.R 37 rfl)
 have TH : Hid ((w3.alloc (.cells #[.int .i64 0, .int .i64 0, .int .i64 0, .int .i64 0, .int .i64 0, .int .i64 0, .slice none 0 0, .int .i64 0, .int .i64 0, .slice none 0 0, .int .i64 0, .int .i64 0, .slice none 0 0, .int .i64 0, .int .i64 0, .slice none 0 0, .int .i64 0, .int .i64 0, .slice none 0 0, .int .i64 0, .int .i64 0, .slice none 0 0, .int .i64 0, .int .i64 0, .int .i64 0, .int .i64 0, .int .i64 0, .int .i64 0, .bool false] 37)).there w3.heap.size 0 e.R.size) := Lib.hid (by have h := Row.there (Row.new w3 37 #[.int .i64 0, .int .i64 0, .int .i64 0, .int .i64 0, .int .i64 0, .int .i64 0, .slice none 0 0, .int .i64 0, .int .i64 0, .slice none 0 0, .int .i64 0, .int .i64 0, .slice none 0 0, .int .i64 0, .int .i64 0, .slice none 0 0, .int .i64 0, .int .i64 0, .slice none 0 0, .int .i64 0, .int .i64 0, .slice none 0 0, .int .i64 0, .int .i64 0, .int .i64 0, .int .i64 0, .int .i64 0, .int .i64 0, .bool false]); exact h)
 have i37 : Hid ((Try.prog.info? 37).map (·.size) = some e.R.size) := Lib.hid (by kernel_rfl)
 have one : Hid (e.R.all (·.oneCell') = true) := Lib.hid (by kernel_rfl)
 go_upto_region 3 with (with_reducible refine wpList_store_mid rfl 37 (.tmp 2) (.tmp 10) rfl w3.heap.size 0 e.R rfl rfl TH.out i37.out one.out ?_)
 clear TH i37 one
 generalize (w3.alloc (.cells #[.int .i64 0, .int .i64 0, .int .i64 0, .int .i64 0, .int .i64 0, .int .i64 0, .slice none 0 0, .int .i64 0, .int .i64 0, .slice none 0 0, .int .i64 0, .int .i64 0, .slice none 0 0, .int .i64 0, .int .i64 0, .slice none 0 0, .int .i64 0, .int .i64 0, .slice none 0 0, .int .i64 0, .int .i64 0, .slice none 0 0, .int .i64 0, .int .i64 0, .int .i64 0, .int .i64 0, .int .i64 0, .int .i64 0, .bool false] 37)).setCells w3.heap.size 0 e.R.toList = w4 at TN ⊢
 have RE := Lib.hid TN.out.1
 have L4 := Lib.hid (L3.out.below TN.out.2)
 have B4 : Hid (Below w.heap.size w w4) := Lib.hid (B3.out.trans (TN.out.2.mono B3.out.size))
 clear TN L3 B3
 generalize w3.heap.size = z at RE ⊢
 clear w3
 have v1 : e.steps = 1 := (congrArg En.steps HE.out : _)
 have Rl : w4.cell? ⟨z, 22, none⟩ = some (I 1) := by rw [RE.out.cell, ← v1]; rfl
 clear v1
 go_wp2_with fail
 refine (zx _).mono ?_
 rintro x w5 ⟨rfl, hb⟩
 have L5 := Lib.hid (L4.out.below hb)
 have B5 : Hid (Below w.heap.size w w5) := Lib.hid (B4.out.trans (hb.mono B4.out.size))
 clear hb L4 B4 Rl RE
 go_wp2_with fail
 have N6 := Lib.hid (Row.new w5 76 #[I 1, I 0, I 0, I 0])
 have B6 : Hid (Below w.heap.size w (w5.alloc (.cells #[.int .i64 1, .int .i64 0, .int .i64 0, .int .i64 0] 76))) := Lib.hid (B5.out.alloc B5.out.size _)
 have L6 : Hid (nR (w5.alloc (.cells #[.int .i64 1, .int .i64 0, .int .i64 0, .int .i64 0] 76)) (some ⟨w.heap.size, 0, none⟩) [Gv]) := Lib.hid (L5.out.below ((Below.refl _ _).alloc (Nat.le_refl _) _))
 refine (Eo _ w.heap.size w5.heap.size L6.out N6.out).mono ?_
 rintro x w6 ⟨rfl, hb⟩
 have L7 := Lib.hid (L6.out.below hb)
 have B7 : Hid (Below w.heap.size w w6) := Lib.hid (B6.out.trans (hb.mono B6.out.size))
 clear hb L6 B6 N6 L5 B5
 go_wp2_with fail
 refine (Df _ w.heap.size L7.out).mono ?_
 rintro x w7 ⟨rfl, hb⟩
 have B8 : Hid (Below w.heap.size w w7) := Lib.hid (B7.out.trans (hb.mono B7.out.size))
 clear hb L7 B7
 go_wp2_with fail
 refine (Em _).mono ?_
 rintro x w8 ⟨rfl, hb⟩
 have B9 : Hid (Below w.heap.size w w8) := Lib.hid (B8.out.trans (hb.mono B8.out.size))
 clear hb B8
 go_wp2_with fail
 refine (Na _ w8.heap.size (Row.new w8 78 #[I 2, I 1, I 0, I 0, I 0])).mono ?_
 rintro x w9 ⟨⟨g, cap2, rfl⟩, hb⟩
 have B10 : Hid (Below w.heap.size w w9) := Lib.hid ((B9.out.alloc B9.out.size _).trans (hb.mono (Nat.le_trans B9.out.size (by simp))))
 clear hb B9
 go_wp2
 go_ret
 exact ⟨rfl, B10.out⟩
end Go.Proofs.Ytnijhjbcjeohhaa.BB

namespace Go.Proofs.Ytnijhjbcjeohhaa.BB
open Go.RowKit Go.Proofs.Ytnijhjbcjeohhaa.KK Go.Proofs.Ytnijhjbcjeohhaa.EE Go.Proofs.af.aA Go.Proofs.af.aN Go.Proofs.af.aP
set_option linter.unusedVariables false
set_option linter.unusedSimpArgs false
theorem yS {W : World} {D : Nat} {v : Value} {os : List Ou} (h : W.ownsRow D 76 4 v os.length (jJ os)) (hn : os.length ≤ 1000000) : ∃ A cap, v = .slice A os.length cap ∧ os.length ≤ cap ∧ cap ≤ maxLen ∧ jX 4 W A (os.map Ou.R) := by
 have e : jJ os = (os.map Ou.R).flatMap Array.toList := by simp [jJ, List.flatMap_map]
 rw [e] at h
 have := uC (os.map Ou.R) h (fun a ha => by obtain ⟨x, _, rfl⟩ := List.mem_map.1 ha; rfl) (by simp) hn
 simpa using this
theorem UJ {g : Int} {l : List Tk} {k : Nat} {t : Tk} (h : l[k]? = some t) (hg : t.gen = g) : (lY g l)[(lY g (l.take k)).length]? = some t.out := by
 obtain ⟨hk, ht⟩ := List.getElem?_eq_some_iff.1 h
 have e : l = l.take k ++ t :: l.drop (k + 1) := by rw [← ht, List.getElem_cons_drop, List.take_append_drop]
 have e2 : lY g l = lY g (l.take k) ++ t.out :: lY g (l.drop (k + 1)) := by
  conv => lhs; rw [e]
  simp [lY, List.filter_append, hg]
 rw [e2]
 simp
theorem EG {g : Int} {l : List Tk} {k : Nat} {t : Tk} (h : l[k]? = some t) : lY g (l.take (k + 1)) = lY g (l.take k) ++ (if t.gen = g then [t.out] else []) := by
 rw [List.take_add_one, h]
 exact vF g _ t
theorem ED (l : List Tk) (g : Int) (A : Option Addr) (ca : Nat) (w : World) (hr0 : l.length ≤ 50 → jX 5 w A (l.map Tk.R)) :
 Calls Try.prog 12 #[.slice A l.length ca, .int .i64 g] w fun x w' => x = .returned (.bool true) ∧ Below w.heap.size w w' := by
 have HR0 := Lib.hid hr0
 clear hr0
 go_enter Try.func12, Try.ntmps12
 go_wp2_with fail
 refine (iR _).mono ?_
 rintro x w1 ⟨rfl, hb⟩
 have B1 := Lib.hid hb
 clear hb
 by_cases h50 : (50 : Int) < (l.length : Int)
 case pos =>
  have hd : decide ((50 : Int) < (l.length : Int)) = true := decide_eq_true h50
  go_wp2
  exact bodyPost_ret (results_tmp rfl _ _ _) rfl ⟨rfl, B1.out⟩
 have hd : decide ((50 : Int) < (l.length : Int)) = false := decide_eq_false h50
 have HR := Lib.hid (HR0.out (by omega))
 have la : Hid (l.length ≤ 1000000) := Lib.hid (by omega)
 clear h50 HR0
 go_wp2_with fail
 refine (iL l g A ca w1 (HR.out.below B1.out)).mono ?_
 rintro x w2 ⟨v, rfl, hv, hb⟩
 obtain ⟨G, cap, rfl, _, _, hG⟩ := yS hv (by have := oV g l; have := la.out; omega)
 have RG := Lib.hid hG
 have B2 : Hid (Below w.heap.size w w2) := Lib.hid (B1.out.trans (hb.mono B1.out.size))
 have R2 := Lib.hid (HR.out.below B2.out)
 clear hv hb hG B1
 go_wp2
 go_loopw [7, 8] (fun kk i wr => ∃ k : Nat, k ≤ l.length ∧ kk = .int .i64 (lY g (l.take k)).length ∧ i = .int .i64 k ∧ Hid (Below w2.heap.size w2 wr)) (fun _ i _ => l.length - (intOf i).toNat)
 case atStart => exact ⟨0, by omega, rfl, rfl, Below.refl _ _⟩
 case round =>
  obtain ⟨k, hk, rfl, rfl, F⟩ := hrel
  have B3 : Hid (Below w.heap.size w wr) := Lib.hid (B2.out.trans (F.out.mono B2.out.size))
  obtain rfl | hlt : k = l.length ∨ k < l.length := by omega
  · rw [List.take_length]
    go_wp2
    refine bodyPost_ret (results_tmp rfl _ _ _) rfl ⟨?_, B3.out⟩
    simp
  · have fO := Lib.hid hlt
    obtain ⟨t, ht⟩ : ∃ t, l[k]? = some t := ⟨_, List.getElem?_eq_getElem hlt⟩
    have HT := Lib.hid ht
    obtain ⟨b, o, rfl, hb, hat⟩ := (R2.out.below F.out).at_ (by simp; omega)
    have hP := hat k t.R (by simp [ht])
    have p0 : wr.cell? ⟨b, o + k * 5, none⟩ = some (I t.gen) := hP 0 _ rfl
    have p1 : wr.cell? ⟨b, o + k * 5 + 1, none⟩ = some (I t.k) := hP 1 _ rfl
    have p2 : wr.cell? ⟨b, o + k * 5 + 2, none⟩ = some (I t.y0) := hP 2 _ rfl
    have p3 : wr.cell? ⟨b, o + k * 5 + 3, none⟩ = some (I t.y1) := hP 3 _ rfl
    have p4 : wr.cell? ⟨b, o + k * 5 + 4, none⟩ = some (I t.y2) := hP 4 _ rfl
    clear hat hb hP ht hlt hk
    have hd : decide (k < l.length) = true := decide_eq_true fO.out
    have g0 : (0 : Int) ≤ (k : Int) := by omega
    have g1 : (k : Int) < 1000000 := by have := la.out; have := fO.out; omega
    have g2 : (k : Int) < (l.length : Int) := by have := fO.out; omega
    have hw : IntKind.i64.wrap ((k : Int) + 1) = ((k + 1 : Nat) : Int) := by rw [IntWalk.i64_in _ (by omega)]; omega
    by_cases hg : t.gen = g
    case neg =>
     have d1 : (t.gen != g) = true := by rw [bne_iff_ne]; exact hg
     have TK : Hid (lY g (l.take (k + 1)) = lY g (l.take k)) := Lib.hid (by rw [EG HT.out, if_neg hg, List.append_nil])
     go_wp2
     go_roundw
     case rel => exact ⟨k + 1, fO.out, by rw [TK.out], by first | rfl | (simp [hw]) | (rw [hw]), F⟩
     case measure =>
      have := fO.out
      simp [intOf, hw]
      omega
    case pos =>
     have d1 : (t.gen != g) = false := by simp [hg]
     have TK : Hid ((lY g (l.take (k + 1))).length = (lY g (l.take k)).length + 1) := Lib.hid (by rw [EG HT.out, if_pos hg, List.length_append]; rfl)
     have hat := UJ HT.out hg
     have hml := (List.getElem?_eq_some_iff.1 hat).1
     have ahn := oV g l
     obtain ⟨b2, o2, rfl, hb2, Yl⟩ := (RG.out.below F.out).at_ (by simp; omega)
     have hQ := Yl (lY g (l.take k)).length t.out.R (by simp [hat])
     generalize (lY g (l.take k)).length = m at *
     generalize (lY g l).length = n at *
     have q0 : wr.cell? ⟨b2, o2 + m * 4, none⟩ = some (I t.k) := hQ 0 _ rfl
     have q1 : wr.cell? ⟨b2, o2 + m * 4 + 1, none⟩ = some (I t.y0) := hQ 1 _ rfl
     have q2 : wr.cell? ⟨b2, o2 + m * 4 + 2, none⟩ = some (I t.y1) := hQ 2 _ rfl
     have q3 : wr.cell? ⟨b2, o2 + m * 4 + 3, none⟩ = some (I t.y2) := hQ 3 _ rfl
     have m0 : (0 : Int) ≤ (m : Int) := by omega
     have m1 : (m : Int) < (n : Int) := by omega
     have m3 : decide (n ≤ m) = false := decide_eq_false (by omega)
     have m2 : (m : Int) < 1000000 := by have := la.out; omega
     have hw2 : IntKind.i64.wrap ((m : Int) + 1) = ((m + 1 : Nat) : Int) := by rw [IntWalk.i64_in _ (by omega)]; omega
     have EQ : ∀ w', (Op.equalIn 9999 42 (.agg #[.int .i64 t.y0, .int .i64 t.y1, .int .i64 t.y2]) (.agg #[.int .i64 t.y0, .int .i64 t.y1, .int .i64 t.y2])).run Try.prog w' = .ok true w' := fun w' => by rw [Ig 9997, yF.2 ⟨rfl, rfl, rfl⟩]
     clear hQ Yl hb2 hat
     go_wp2
     go_quiet (fail)
     go_wp2
     have h1 := fO.out
     exact ⟨⟨k + 1, h1, by rw [TK.out]; rfl, rfl, Lib.hid (ah F.out _)⟩, by simp [intOf]; omega⟩
end Go.Proofs.Ytnijhjbcjeohhaa.BB

namespace Go.Proofs.Ytnijhjbcjeohhaa.BB
open Go.ChangeShapes Go.WideShapes Go.ChangeAt Go.RowKit Go.Deep Go.Proofs.Ytnijhjbcjeohhaa.KK Go.Proofs.Ytnijhjbcjeohhaa.EE
set_option linter.unusedVariables false
set_option linter.unusedSimpArgs false
theorem z78 : Try.prog.cellsOf 78 = 5 := by kernel_rfl
theorem z2 : Try.prog.cellsOf 2 = 1 := by kernel_rfl
theorem XU {α : Type} {l : List α} (h : l.length = 5) : ∃ c0 c1 c2 c3 c4, l = [c0, c1, c2, c3, c4] := by
 match l, h with
 | [c0, c1, c2, c3, c4], _ => exact ⟨c0, c1, c2, c3, c4, rfl⟩
theorem UC {w : World} {a : Addr} {v : Value} (h : w.cell? a = some v) : a = ⟨a.block, a.off, none⟩ := by
 obtain ⟨b, o, s⟩ := a
 unfold World.cell? at h
 split at h
 · split at h
   · cases h
   · rename_i hs; cases s with
     | none => rfl
     | some y => simp at hs
 · cases h
theorem Ri {α : Type} [Inhabited α] {n : Nat} {p : Nat → α → Prop} (h : ∀ i, i < n → ∃ x, p i x) : ∃ l : List α, l.length = n ∧ ∀ i x, l[i]? = some x → p i x := by
 refine ⟨(List.range n).map fun i => if hi : i < n then Classical.choose (h i hi) else default, by simp, fun i x hx => ?_⟩
 rw [List.getElem?_map] at hx
 rcases Nat.lt_or_ge i n with hl | hl
 · rw [List.getElem?_range hl] at hx
   simp only [Option.map_some, Option.some.injEq, hl, dif_pos] at hx
   rw [← hx]
   exact Classical.choose_spec (h i hl)
 · rw [List.getElem?_eq_none (by simpa using hl)] at hx
   simp at hx
section
variable {H : Type} {enc : TypeId × Value → H} {W : World} {base : Nat} {sp : Nat → Bool} {held : Bool} {fuel : Nat} {cs : List Value} {x : DataW H × List MemPlace}
theorem KH (h : DataW.trod enc Try.prog W base sp held fuel 78 cs = some x) : ∃ t : Tk, cs = t.R.toList := by
 obtain ⟨xs, n, _, _, hl, hlen, hf⟩ := DataW.trod_struct Try.underlying78 h
 rw [z78] at hl
 obtain ⟨c0, c1, c2, c3, c4, rfl⟩ := XU hl
 have hl2 : xs.length = 3 := hlen
 have get : ∀ i (h : i < 3), xs[i]? = some (xs[i]'(by omega)) := fun i h => List.getElem?_eq_getElem (by omega)
 obtain ⟨q, e0, _, _⟩ := DataW.trod_int Try.underlying2 ((uK hf 0 2 0 1 rfl z2).trans (get 0 (by omega)))
 obtain ⟨k, e1, _, _⟩ := DataW.trod_int Try.underlying2 ((uK hf 1 2 1 1 rfl z2).trans (get 1 (by omega)))
 obtain ⟨a, b, c, e2⟩ := rJ ((uK hf 2 42 2 3 rfl z42).trans (get 2 (by omega)))
 simp at e0 e1 e2
 obtain ⟨rfl, rfl, rfl⟩ := e2
 subst e0 e1
 exact ⟨⟨q, k, a, b, c⟩, rfl⟩
instance : Inhabited Tk := ⟨⟨0, 0, 0, 0, 0⟩⟩
theorem wL {α : Type} [Inhabited α] {t e sz : Nat} {R : α → Array Value} (ht : Try.prog.underlying t = some (.slice e)) (hz : Try.prog.cellsOf e = sz) (h0 : 0 < sz) (hR : ∀ a, (R a).size = sz)
 (ho : ∀ (fuel : Nat) (cs : List Value) (x : DataW H × List MemPlace), DataW.trod enc Try.prog W base sp held fuel e cs = some x → ∃ a : α, cs = (R a).toList)
 (h : DataW.trod enc Try.prog W base sp held fuel t cs = some x) : ∃ A c l, cs = [.slice A (l : List α).length c] ∧ l.length ≤ c ∧ (l.length ≤ 1000000 → jX sz W A (l.map R)) := by
 rcases open_slice ht h with ⟨rfl, _⟩ | ⟨a, len, cap, m, n, D, Pl, rfl, hb, hl, hm, hmm, hx, hi⟩
 · exact ⟨none, 0, [], rfl, by simp, fun _ => ⟨by simp, fun h => by simp at h⟩⟩
 · have hle : len ≤ m := by rw [hmm]; split <;> omega
   have key : ∀ i, i < len → ∃ o : α, ∀ j v, (R o).toList[j]? = some v → W.cell? ((a.add (i * sz)).add j) = some v := by
    intro i hil
    obtain ⟨cs', hc, ht⟩ := hi i (by omega)
    rw [hz] at hc
    obtain ⟨_, hcl, hat⟩ := World.cells?_some hc
    obtain ⟨o, rfl⟩ := ho _ _ _ ht
    exact ⟨o, fun j v hj => by
     have hj2 := (List.getElem?_eq_some_iff.1 hj).1
     have := hat j (by simpa [hR] using hj2)
     simpa [hj] using this⟩
   obtain ⟨l, hlen, hk⟩ := Ri key
   subst hlen
   refine ⟨some a, cap, l, rfl, hl, fun hL => ⟨by simpa using hL, fun hp => ?_⟩⟩
   have hp : 0 < l.length := by simpa using hp
   obtain ⟨o0, ho0⟩ : ∃ o0, l[0]? = some o0 := ⟨_, List.getElem?_eq_getElem hp⟩
   obtain ⟨v0, hv0⟩ : ∃ v, (R o0).toList[0]? = some v := ⟨_, List.getElem?_eq_getElem (by rw [Array.length_toList, hR]; exact h0)⟩
   have hf := hk 0 _ ho0 0 v0 hv0
   simp only [Nat.zero_mul] at hf
   have ea0 : (a.add 0).add 0 = a := by simp [Addr.add]
   rw [ea0] at hf
   have hs := UC hf
   obtain ⟨ab, ao, asp⟩ := a
   injection hs with _ _ hs
   subst hs
   refine ⟨ab, ao, rfl, cell_lt hf, fun i o hoi j v hj => ?_⟩
   simp only [List.getElem?_map, Option.map_eq_some_iff] at hoi
   obtain ⟨o', ho', rfl⟩ := hoi
   have := hk i o' ho' j v hj
   simp only [Addr.add_lit] at this
   simpa only [Nat.add_assoc] using this
theorem yT (h : DataW.trod enc Try.prog W base sp held fuel 58 cs = some x) : ∃ A c l, cs = [.slice A (l : List Tk).length c] ∧ l.length ≤ c ∧ (l.length ≤ 1000000 → jX 5 W A (l.map Tk.R)) :=
 wL Try.underlying58 z78 (by decide) (fun _ => rfl) (fun _ _ _ h => KH h) h
end
end Go.Proofs.Ytnijhjbcjeohhaa.BB

